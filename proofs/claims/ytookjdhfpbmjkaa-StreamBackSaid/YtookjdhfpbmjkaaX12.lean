-- Written by xprint.py, a program of this repo that leads the kit's print.py: Lean checks it.
import Derived.Test.YtookjdhfpbmjkaaX0
import Derived.Test.YtookjdhfpbmjkaaX11
namespace Go.Proofs.Ytookjdhfpbmjkaa.X
open Go.RowKit Go.Proofs.YtookjdhfpbmjkaaW.PrintWords Go.Proofs.YtookjdhfpbmjkaaW.PrintLast Go.Proofs.YtookjdhfpbmjkaaW.PrintMore
attribute [local go_sem] max2_int min2_int max_two min_two max_three min_three max_four min_four   -- for this text's walks alone
set_option linter.unusedVariables false
set_option linter.unusedSimpArgs false

/-! ### keyeventkit_Group: function 15 -/
mutual
def keyeventkit_Group.l0 : Nat → List Int → Int → List Int → Int → Int → List (S27) → Option (Int × (List (S27)) × Int)
  | 0, _, _, _, _, _, _ => none
  | k + 1, x4, x5, x1000, x1001, x227000, x227001 => if x5 > 0 then (keyeventkit_Group.l1 k x4 x5 x4 (x4.length : Int) 0 x1000 x1001 x227000 x227001) else ((keyeventkit_Dice_Next.f x1000 x1001 12).bind fun bt253 => (if bt253.1 = 1 then ((keyeventkit_Dice_Next.f x1000 bt253.2 6).bind fun bt255 => (some (bt255.1, x227001, bt255.2))) else (some (x227000, x227001, bt253.2))))
def keyeventkit_Group.l1 : Nat → List Int → Int → List Int → Int → Int → List Int → Int → Int → List (S27) → Option (Int × (List (S27)) × Int)
  | 0, _, _, _, _, _, _, _, _, _ => none
  | k + 1, x4, x5, x28, x29, x30, x1000, x1001, x227000, x227001 => if x30 < x29 then (if 0 ≤ x30 then (if x30 < (x28.length : Int) then ((keyeventkit_Dice_Bytes.f k x1000 x1001 4).bind fun bt246 => (keyeventkit_Group.l2 k x4 x5 (rd x28 x30) x28 x29 x30 x1000 bt246.2 x227000 x227001 (rd x28 x30) bt246.1)) else (none)) else (none)) else (keyeventkit_Group.l0 k x4 (wrap64 (x5 - 1)) x1000 x1001 x227000 x227001)
def keyeventkit_Group.l2 : Nat → List Int → Int → Int → List Int → Int → Int → List Int → Int → Int → List (S27) → Int → ByteArray → Option (Int × (List (S27)) × Int)
  | 0, _, _, _, _, _, _, _, _, _, _, _, _ => none
  | k + 1, x4, x5, x7, x28, x29, x30, x1000, x1001, x227000, x227001, x249000, x249001 => (keyeventref03_Raw.f x7).bind fun t249 => (if (x249001.size : Int) < t249 then (if x249001.size + 1 ≤ 9223372036854775807 then (keyeventkit_Group.l2 k x4 x5 x7 x28 x29 x30 x1000 x1001 x227000 x227001 x249000 (x249001 ++ (⟨#[1]⟩ : ByteArray))) else (none)) else (if x227001.length < 5864062014805 then (keyeventkit_Group.l1 k x4 x5 x28 x29 (wrap64 (x30 + 1)) x1000 x1001 x227000 (x227001 ++ [(⟨x249000, x249001⟩ : S27)])) else (none)))
end
def keyeventkit_Group.f (k : Nat) (s0_0 : List Int) (s0_1 : Int) : Option (Int × (List (S27)) × Int) := (keyeventkit_Dice_Next.f s0_0 s0_1 4).bind fun bt224 => ((some (([[], (([7] : List Int)), (([7] : List Int)), (([3, 7] : List Int)), (([8, 1] : List Int))] : List (List Int)) : List (List Int))).bind fun y239 => (if 0 ≤ (wrap64 (1 + bt224.1)) then (if (wrap64 (1 + bt224.1)) < (y239.length : Int) then ((keyeventkit_Dice_Next.f s0_0 bt224.2 3).bind fun bt243 => (keyeventkit_Group.l0 k (rd_L1 y239 (wrap64 (1 + bt224.1))) bt243.1 s0_0 bt243.2 (wrap64 (1 + bt224.1)) ([] : List (S27)))) else (none)) else (none)))
theorem keyeventkit_Group.mono_l : ∀ k, (∀ y0 y1 y2 y3 y4 y5, LeO (keyeventkit_Group.l0 k y0 y1 y2 y3 y4 y5) (keyeventkit_Group.l0 (k + 1) y0 y1 y2 y3 y4 y5)) ∧ (∀ y0 y1 y2 y3 y4 y5 y6 y7 y8, LeO (keyeventkit_Group.l1 k y0 y1 y2 y3 y4 y5 y6 y7 y8) (keyeventkit_Group.l1 (k + 1) y0 y1 y2 y3 y4 y5 y6 y7 y8)) ∧ (∀ y0 y1 y2 y3 y4 y5 y6 y7 y8 y9 y10 y11, LeO (keyeventkit_Group.l2 k y0 y1 y2 y3 y4 y5 y6 y7 y8 y9 y10 y11) (keyeventkit_Group.l2 (k + 1) y0 y1 y2 y3 y4 y5 y6 y7 y8 y9 y10 y11))
  | 0 => ⟨fun _ _ _ _ _ _ r h => by simp [keyeventkit_Group.l0] at h, fun _ _ _ _ _ _ _ _ _ r h => by simp [keyeventkit_Group.l1] at h, fun _ _ _ _ _ _ _ _ _ _ _ _ r h => by simp [keyeventkit_Group.l2] at h⟩
  | k + 1 => by
    obtain ⟨ih0, ih1, ih2⟩ := keyeventkit_Group.mono_l k
    refine ⟨?_, ?_, ?_⟩
    · intro y0 y1 y2 y3 y4 y5
      unfold keyeventkit_Group.l0
      repeat' first
      | (with_reducible exact ih0 _ _ _ _ _ _)
      | (with_reducible exact ih1 _ _ _ _ _ _ _ _ _)
      | (with_reducible exact ih2 _ _ _ _ _ _ _ _ _ _ _ _)
      | (with_reducible exact keyeventkit_Dice_Bytes.mono _ _ _ _)
      | (with_reducible exact LeO.refl _)
      | (with_reducible exact LeO.none _)
      | (with_reducible refine LeO.ite ?_ ?_)
      | (with_reducible refine LeO.bind ?_ (fun _ => ?_))
      | exact ih0 _ _ _ _ _ _
      | exact ih1 _ _ _ _ _ _ _ _ _
      | exact ih2 _ _ _ _ _ _ _ _ _ _ _ _
      | exact keyeventkit_Dice_Bytes.mono _ _ _ _
      | exact LeO.none _
      | refine LeO.ite ?_ ?_
      | refine LeO.bind ?_ (fun _ => ?_)
    · intro y0 y1 y2 y3 y4 y5 y6 y7 y8
      unfold keyeventkit_Group.l1
      repeat' first
      | (with_reducible exact ih0 _ _ _ _ _ _)
      | (with_reducible exact ih1 _ _ _ _ _ _ _ _ _)
      | (with_reducible exact ih2 _ _ _ _ _ _ _ _ _ _ _ _)
      | (with_reducible exact keyeventkit_Dice_Bytes.mono _ _ _ _)
      | (with_reducible exact LeO.refl _)
      | (with_reducible exact LeO.none _)
      | (with_reducible refine LeO.ite ?_ ?_)
      | (with_reducible refine LeO.bind ?_ (fun _ => ?_))
      | exact ih0 _ _ _ _ _ _
      | exact ih1 _ _ _ _ _ _ _ _ _
      | exact ih2 _ _ _ _ _ _ _ _ _ _ _ _
      | exact keyeventkit_Dice_Bytes.mono _ _ _ _
      | exact LeO.none _
      | refine LeO.ite ?_ ?_
      | refine LeO.bind ?_ (fun _ => ?_)
    · intro y0 y1 y2 y3 y4 y5 y6 y7 y8 y9 y10 y11
      unfold keyeventkit_Group.l2
      repeat' first
      | (with_reducible exact ih0 _ _ _ _ _ _)
      | (with_reducible exact ih1 _ _ _ _ _ _ _ _ _)
      | (with_reducible exact ih2 _ _ _ _ _ _ _ _ _ _ _ _)
      | (with_reducible exact keyeventkit_Dice_Bytes.mono _ _ _ _)
      | (with_reducible exact LeO.refl _)
      | (with_reducible exact LeO.none _)
      | (with_reducible refine LeO.ite ?_ ?_)
      | (with_reducible refine LeO.bind ?_ (fun _ => ?_))
      | exact ih0 _ _ _ _ _ _
      | exact ih1 _ _ _ _ _ _ _ _ _
      | exact ih2 _ _ _ _ _ _ _ _ _ _ _ _
      | exact keyeventkit_Dice_Bytes.mono _ _ _ _
      | exact LeO.none _
      | refine LeO.ite ?_ ?_
      | refine LeO.bind ?_ (fun _ => ?_)
theorem keyeventkit_Group.mono : ∀ a0 a1 k, LeO (keyeventkit_Group.f k a0 a1) (keyeventkit_Group.f (k + 1) a0 a1) := by
  intro a0 a1 k
  obtain ⟨ih0, ih1, ih2⟩ := keyeventkit_Group.mono_l k
  unfold keyeventkit_Group.f
  repeat' first
      | (with_reducible exact ih0 _ _ _ _ _ _)
      | (with_reducible exact ih1 _ _ _ _ _ _ _ _ _)
      | (with_reducible exact ih2 _ _ _ _ _ _ _ _ _ _ _ _)
      | (with_reducible exact keyeventkit_Dice_Bytes.mono _ _ _ _)
      | (with_reducible exact LeO.refl _)
      | (with_reducible exact LeO.none _)
      | (with_reducible refine LeO.ite ?_ ?_)
      | (with_reducible refine LeO.bind ?_ (fun _ => ?_))
      | exact ih0 _ _ _ _ _ _
      | exact ih1 _ _ _ _ _ _ _ _ _
      | exact ih2 _ _ _ _ _ _ _ _ _ _ _ _
      | exact keyeventkit_Dice_Bytes.mono _ _ _ _
      | exact LeO.none _
      | refine LeO.ite ?_ ?_
      | refine LeO.bind ?_ (fun _ => ?_)
set_option maxHeartbeats 8000000 in
set_option maxRecDepth 100000 in
theorem keyeventkit_Group.calls (k : Nat) (g : Nat) (s0_0 : List Int) (s0_1 : Int) (r1 : Int) (r2 : List (S27)) (r3 : Int) (w0 w : World) (hI : IsS74 w0 w g s0_0 s0_1) (hB : Below w0.heap.size w0 w) (h : keyeventkit_Group.f k s0_0 s0_1 = some (r1, r2, r3)) :
    Calls Try.prog 15 #[.pointer (some ⟨g, 0, none⟩)] w fun e w' => ∃ v1_ : Value, e = .returned (.agg #[.int .i64 r1, v1_]) ∧ Kd.R k27 27 w' w.heap.size (fun _ => True) v1_ r2 ∧ IsS74 w0 w' g s0_0 r3 ∧ Below w0.heap.size w0 w' ∧ KeepBut w w' g none := by
 have hu25 := Try.underlying25
 have hu27 := Try.underlying27
 have HI0 := Aside0.mk hI
 have HK := Aside0.mk (KeepBut.refl w g none)
 have HL := Aside0.mk hB.size
 clear hI
 have HW0 := Aside0.mk hB.size
 have HB := Aside0.mk hB
 clear hB
 have H : ((keyeventkit_Dice_Next.f s0_0 s0_1 4).bind fun bt224 => ((some (([[], (([7] : List Int)), (([7] : List Int)), (([3, 7] : List Int)), (([8, 1] : List Int))] : List (List Int)) : List (List Int))).bind fun y239 => (if 0 ≤ (wrap64 (1 + bt224.1)) then (if (wrap64 (1 + bt224.1)) < (y239.length : Int) then ((keyeventkit_Dice_Next.f s0_0 bt224.2 3).bind fun bt243 => (keyeventkit_Group.l0 k (rd_L1 y239 (wrap64 (1 + bt224.1))) bt243.1 s0_0 bt243.2 (wrap64 (1 + bt224.1)) ([] : List (S27)))) else (none)) else (none)))) = some (r1, r2, r3) := h
 clear h
 replace H := Option.bind_eq_some_iff.mp H
 obtain ⟨⟨t224, t225⟩, A20, H⟩ := H
 replace H : ((some (([[], (([7] : List Int)), (([7] : List Int)), (([3, 7] : List Int)), (([8, 1] : List Int))] : List (List Int)) : List (List Int))).bind fun y239 => (if 0 ≤ (wrap64 (1 + t224)) then (if (wrap64 (1 + t224)) < (y239.length : Int) then ((keyeventkit_Dice_Next.f s0_0 t225 3).bind fun bt243 => (keyeventkit_Group.l0 k (rd_L1 y239 (wrap64 (1 + t224))) bt243.1 s0_0 bt243.2 (wrap64 (1 + t224)) ([] : List (S27)))) else (none)) else (none))) = some (r1, r2, r3) := H
 have A2 := Aside0.mk A20
 clear A20
 obtain ⟨y227, hy227⟩ : ∃ y_ : List Int, y_ = (([7] : List Int)) := ⟨_, rfl⟩
 replace H : ((some (([[], y227, (([7] : List Int)), (([3, 7] : List Int)), (([8, 1] : List Int))] : List (List Int)) : List (List Int))).bind fun y239 => (if 0 ≤ (wrap64 (1 + t224)) then (if (wrap64 (1 + t224)) < (y239.length : Int) then ((keyeventkit_Dice_Next.f s0_0 t225 3).bind fun bt243 => (keyeventkit_Group.l0 k (rd_L1 y239 (wrap64 (1 + t224))) bt243.1 s0_0 bt243.2 (wrap64 (1 + t224)) ([] : List (S27)))) else (none)) else (none))) = some (r1, r2, r3) := by first | (rw [hy227]; with_reducible exact H) | (have H2_ := (Option.bind_some _ _).symm.trans H; rw [hy227]; with_reducible exact H2_) | (have H2_ := (Option.bind_some _ _).symm.trans H; with_reducible exact H2_) | with_reducible exact H | (rw [hy227]; exact H) | exact H
 have Ny227 := Aside0.mk hy227
 clear hy227
 obtain ⟨y230, hy230⟩ : ∃ y_ : List Int, y_ = (([7] : List Int)) := ⟨_, rfl⟩
 replace H : ((some (([[], y227, y230, (([3, 7] : List Int)), (([8, 1] : List Int))] : List (List Int)) : List (List Int))).bind fun y239 => (if 0 ≤ (wrap64 (1 + t224)) then (if (wrap64 (1 + t224)) < (y239.length : Int) then ((keyeventkit_Dice_Next.f s0_0 t225 3).bind fun bt243 => (keyeventkit_Group.l0 k (rd_L1 y239 (wrap64 (1 + t224))) bt243.1 s0_0 bt243.2 (wrap64 (1 + t224)) ([] : List (S27)))) else (none)) else (none))) = some (r1, r2, r3) := by first | (rw [hy230]; with_reducible exact H) | (have H2_ := (Option.bind_some _ _).symm.trans H; rw [hy230]; with_reducible exact H2_) | (have H2_ := (Option.bind_some _ _).symm.trans H; with_reducible exact H2_) | with_reducible exact H | (rw [hy230]; exact H) | exact H
 have Ny230 := Aside0.mk hy230
 clear hy230
 obtain ⟨y233, hy233⟩ : ∃ y_ : List Int, y_ = (([3, 7] : List Int)) := ⟨_, rfl⟩
 replace H : ((some (([[], y227, y230, y233, (([8, 1] : List Int))] : List (List Int)) : List (List Int))).bind fun y239 => (if 0 ≤ (wrap64 (1 + t224)) then (if (wrap64 (1 + t224)) < (y239.length : Int) then ((keyeventkit_Dice_Next.f s0_0 t225 3).bind fun bt243 => (keyeventkit_Group.l0 k (rd_L1 y239 (wrap64 (1 + t224))) bt243.1 s0_0 bt243.2 (wrap64 (1 + t224)) ([] : List (S27)))) else (none)) else (none))) = some (r1, r2, r3) := by first | (rw [hy233]; with_reducible exact H) | (have H2_ := (Option.bind_some _ _).symm.trans H; rw [hy233]; with_reducible exact H2_) | (have H2_ := (Option.bind_some _ _).symm.trans H; with_reducible exact H2_) | with_reducible exact H | (rw [hy233]; exact H) | exact H
 have Ny233 := Aside0.mk hy233
 clear hy233
 obtain ⟨y236, hy236⟩ : ∃ y_ : List Int, y_ = (([8, 1] : List Int)) := ⟨_, rfl⟩
 replace H : ((some (([[], y227, y230, y233, y236] : List (List Int)) : List (List Int))).bind fun y239 => (if 0 ≤ (wrap64 (1 + t224)) then (if (wrap64 (1 + t224)) < (y239.length : Int) then ((keyeventkit_Dice_Next.f s0_0 t225 3).bind fun bt243 => (keyeventkit_Group.l0 k (rd_L1 y239 (wrap64 (1 + t224))) bt243.1 s0_0 bt243.2 (wrap64 (1 + t224)) ([] : List (S27)))) else (none)) else (none))) = some (r1, r2, r3) := by first | (rw [hy236]; with_reducible exact H) | (have H2_ := (Option.bind_some _ _).symm.trans H; rw [hy236]; with_reducible exact H2_) | (have H2_ := (Option.bind_some _ _).symm.trans H; with_reducible exact H2_) | with_reducible exact H | (rw [hy236]; exact H) | exact H
 have Ny236 := Aside0.mk hy236
 clear hy236
 obtain ⟨y239, hy239⟩ : ∃ y_ : List (List Int), y_ = (([[], y227, y230, y233, y236] : List (List Int))) := ⟨_, rfl⟩
 replace H : (if 0 ≤ (wrap64 (1 + t224)) then (if (wrap64 (1 + t224)) < (y239.length : Int) then ((keyeventkit_Dice_Next.f s0_0 t225 3).bind fun bt243 => (keyeventkit_Group.l0 k (rd_L1 y239 (wrap64 (1 + t224))) bt243.1 s0_0 bt243.2 (wrap64 (1 + t224)) ([] : List (S27)))) else (none)) else (none)) = some (r1, r2, r3) := by first | (rw [hy239]; with_reducible exact H) | (have H2_ := (Option.bind_some _ _).symm.trans H; rw [hy239]; with_reducible exact H2_) | (have H2_ := (Option.bind_some _ _).symm.trans H; with_reducible exact H2_) | with_reducible exact H | (rw [hy239]; exact H) | exact H
 have Ny239 := Aside0.mk hy239
 clear hy239
 obtain ⟨ji3, hji3⟩ : ∃ j_ : Int, (wrap64 (1 + t224)) = j_ := ⟨_, rfl⟩
 replace H : (if 0 ≤ (ji3) then (if (ji3) < (y239.length : Int) then ((keyeventkit_Dice_Next.f s0_0 t225 3).bind fun bt243 => (keyeventkit_Group.l0 k (rd_L1 y239 (ji3)) bt243.1 s0_0 bt243.2 ji3 ([] : List (S27)))) else (none)) else (none)) = some (r1, r2, r3) := by first | (rw [hji3] at H; exact H) | (simp only [hji3] at H ⊢; exact H)
 (try rw [hji3] at A2)
 have hji3w : (IntKind.i64.wrap (1 + t224)) = ji3 := (i64_w _).trans hji3
 by_cases c4 : 0 ≤ (ji3)
 ·rw [if_pos c4] at H
  have c4b0 : decide (0 ≤ (ji3)) = true := decide_eq_true c4
  clear c4
  by_cases c5 : (ji3) < (y239.length : Int)
  ·rw [if_pos c5] at H
   have c5b0 : decide ((ji3) < (y239.length : Int)) = true := decide_eq_true c5
   clear c5
   replace H := Option.bind_eq_some_iff.mp H
   obtain ⟨⟨t243, t244⟩, A60, H⟩ := H
   replace H : (keyeventkit_Group.l0 k (rd_L1 y239 (ji3)) t243 s0_0 t244 ji3 ([] : List (S27))) = some (r1, r2, r3) := H
   have A6 := Aside0.mk A60
   clear A60
   have H' := Aside0.mk H
   clear H
   go_enter Try.func15, Try.ntmps15
   go_wp2_with (first | ((with_reducible refine gate_dst (N := 2) rfl ?_); refine box_event ?hg (N := 2) ?hd (cs := #[.int .i64 0, .slice none 0 0]) (t := 25) ?hr ?_; (case hd => rfl); (case hg => rfl); (case hr => first | (go_simp; done) | (go_simp; rfl)); intro gb223 hg w7 hbox hb; have n0_ := Aside0.mk (IsS74.below (by repeat (first | (with_reducible first | exact HI0.out | apply IsS74.alloc | apply IsS74.drewN | apply IsS74.drew | apply IsS74.set_1) | exact HI0.out)) hb); have n1_ := Aside0.mk (KeepBut.trans (by repeat (first | (with_reducible first | exact HK.out | apply KeepBut.set_ | apply keep_drewN | apply keep_drew | apply keep_alloc) | exact HK.out)) (KeepBut.of_below hb g none) (.inl rfl)); have n2_ := Aside0.mk (below_step (by repeat (first | (with_reducible first | exact HB.out | apply below_alloc | apply pw_below_drewN | apply below_drew1 | refine below_set ?_ (IsS74.ge HI0.out)) | exact HB.out)) hb); have n3_ := Aside0.mk (hbox); have n4_ := Aside0.mk ((by rw [hg]; exact (keep_size (w := w) (g := g) (row := none) (by repeat (first | (with_reducible first | exact HK.out | apply KeepBut.set_ | apply keep_drewN | apply keep_drew | apply keep_alloc) | exact HK.out))) : w.heap.size ≤ gb223)); have n5_ := Aside0.mk ((Nat.le_trans HW0.out (by rw [hg]; exact (keep_size (w := w) (g := g) (row := none) (by repeat (first | (with_reducible first | exact HK.out | apply KeepBut.set_ | apply keep_drewN | apply keep_drew | apply keep_alloc) | exact HK.out))) : w.heap.size ≤ gb223) : w0.heap.size ≤ gb223)); have n6_ := Aside0.mk ((by rw [hg]; exact Nat.ne_of_lt (IsS74.lt (show IsS74 w0 _ g s0_0 s0_1 from by repeat (first | (with_reducible first | exact HI0.out | apply IsS74.alloc | apply IsS74.drewN | apply IsS74.drew | apply IsS74.set_1) | exact HI0.out))) : g ≠ gb223)); have n7_ := Aside0.mk ((by rw [hg]; exact Nat.ne_of_gt (IsS74.lt (show IsS74 w0 _ g s0_0 s0_1 from by repeat (first | (with_reducible first | exact HI0.out | apply IsS74.alloc | apply IsS74.drewN | apply IsS74.drew | apply IsS74.set_1) | exact HI0.out))) : gb223 ≠ g)); clear HI0; clear HK; clear HB; have HI0 := n0_; have HK := n1_; have HB := n2_; have BK223 := n3_; have GW223 := n4_; have GE223 := n5_; have NB0_223 := n6_; have NB223_0 := n7_; clear n0_ n1_ n2_ n3_ n4_ n5_ n6_ n7_; clear hb hbox hg) | ((with_reducible refine gate_callee (f := 39) rfl ?_); refine goesL_ (some 10) rfl rfl Try.func39 (by kernel_rfl) rfl #[.pointer (some ⟨g, 0, none⟩), .int .i64 4] rfl (by (try simp only [List.map_toArray, List.map_cons, List.map_nil]); first | done | rfl | (simp only [List.length_drop, List.length_take]; rfl)) ?_; (with_reducible refine (keyeventkit_Dice_Next.calls g s0_0 s0_1 4 t224 t225 w0 _ ?side1 ?side2 A2.out).mono ?_); (case side1 => repeat (first | (with_reducible first | exact HI0.out | apply IsS74.alloc | apply IsS74.drewN | apply IsS74.drew | apply IsS74.set_1 | refine IsS74.far ?_ NB0_223.out _) | exact HI0.out)); (case side2 => repeat (first | (with_reducible first | exact HB.out | apply below_alloc | apply pw_below_drewN | apply below_drew1 | refine below_set ?_ (IsS74.ge HI0.out) | refine below_set ?_ GE223.out) | exact HB.out)); rintro e w8 ⟨rfl, hi, hb, hk⟩; refine ⟨_, rfl, ?_⟩; have n0_ := Aside0.mk (KeepBut.blk hk (g' := gb223) (o := .cells #[.int .i64 0, .slice none 0 0] 25 (0, 0)) (by (with_reducible repeat (first | refine blk_drewN ?_ _ | refine blk_drew ?_ | refine blk_alloc ?_ _)); exact BK223.out) NB223_0.out (by simp)); have n1_ := Aside0.mk (KeepBut.trans (by repeat (first | (with_reducible first | exact HK.out | apply KeepBut.set_ | apply keep_drewN | apply keep_drew | apply keep_alloc | refine keep_far ?_ GW223.out _) | exact HK.out)) hk (.inl rfl)); have n2_ := Aside0.mk (hb); have n3_ := Aside0.mk (hi); clear BK223; clear HK; clear HB; clear HI0; have BK223 := n0_; have HK := n1_; have HB := n2_; have HI0 := n3_; clear n0_ n1_ n2_ n3_; (try clear hb); (try clear hb2); (try clear hk); (try clear hi)) | ((with_reducible refine gate_dst (N := 3) rfl ?_); refine box_event ?hg (N := 3) ?hd (cs := #[.int .i64 0, .slice none 0 0]) (t := 25) ?hr ?_; (case hd => rfl); (case hg => rfl); (case hr => first | (go_simp; done) | (go_simp; rfl)); intro gb226 hg w9 hbox hb; have n0_ := Aside0.mk (IsS74.below (by repeat (first | (with_reducible first | exact HI0.out | apply IsS74.alloc | apply IsS74.drewN | apply IsS74.drew | apply IsS74.set_1 | refine IsS74.far ?_ NB0_223.out _) | exact HI0.out)) hb); have n1_ := Aside0.mk (blk_below (g := gb223) (o := .cells #[.int .i64 0, .slice none 0 0] 25 (0, 0)) (by (with_reducible repeat (first | refine blk_drewN ?_ _ | refine blk_drew ?_ | refine blk_alloc ?_ _)); exact BK223.out) hb); have n2_ := Aside0.mk (KeepBut.trans (by repeat (first | (with_reducible first | exact HK.out | apply KeepBut.set_ | apply keep_drewN | apply keep_drew | apply keep_alloc | refine keep_far ?_ GW223.out _) | exact HK.out)) (KeepBut.of_below hb g none) (.inl rfl)); have n3_ := Aside0.mk (below_step (by repeat (first | (with_reducible first | exact HB.out | apply below_alloc | apply pw_below_drewN | apply below_drew1 | refine below_set ?_ (IsS74.ge HI0.out) | refine below_set ?_ GE223.out) | exact HB.out)) hb); have n4_ := Aside0.mk (hbox); have n5_ := Aside0.mk ((by rw [hg]; exact (keep_size (w := w) (g := g) (row := none) (by repeat (first | (with_reducible first | exact HK.out | apply KeepBut.set_ | apply keep_drewN | apply keep_drew | apply keep_alloc | refine keep_far ?_ GW223.out _) | exact HK.out))) : w.heap.size ≤ gb226)); have n6_ := Aside0.mk ((Nat.le_trans HW0.out (by rw [hg]; exact (keep_size (w := w) (g := g) (row := none) (by repeat (first | (with_reducible first | exact HK.out | apply KeepBut.set_ | apply keep_drewN | apply keep_drew | apply keep_alloc | refine keep_far ?_ GW223.out _) | exact HK.out))) : w.heap.size ≤ gb226) : w0.heap.size ≤ gb226)); have n7_ := Aside0.mk ((by rw [hg]; exact Nat.ne_of_lt (blk_lt (g := gb223) (o := .cells #[.int .i64 0, .slice none 0 0] 25 (0, 0)) (by (with_reducible repeat (first | refine blk_drewN ?_ _ | refine blk_drew ?_ | refine blk_alloc ?_ _)); exact BK223.out)) : gb223 ≠ gb226)); have n8_ := Aside0.mk ((by rw [hg]; exact Nat.ne_of_gt (blk_lt (g := gb223) (o := .cells #[.int .i64 0, .slice none 0 0] 25 (0, 0)) (by (with_reducible repeat (first | refine blk_drewN ?_ _ | refine blk_drew ?_ | refine blk_alloc ?_ _)); exact BK223.out)) : gb226 ≠ gb223)); have n9_ := Aside0.mk ((by rw [hg]; exact Nat.ne_of_lt (IsS74.lt (show IsS74 w0 _ g s0_0 t225 from by repeat (first | (with_reducible first | exact HI0.out | apply IsS74.alloc | apply IsS74.drewN | apply IsS74.drew | apply IsS74.set_1 | refine IsS74.far ?_ NB0_223.out _) | exact HI0.out))) : g ≠ gb226)); have n10_ := Aside0.mk ((by rw [hg]; exact Nat.ne_of_gt (IsS74.lt (show IsS74 w0 _ g s0_0 t225 from by repeat (first | (with_reducible first | exact HI0.out | apply IsS74.alloc | apply IsS74.drewN | apply IsS74.drew | apply IsS74.set_1 | refine IsS74.far ?_ NB0_223.out _) | exact HI0.out))) : gb226 ≠ g)); clear HI0; clear BK223; clear HK; clear HB; have HI0 := n0_; have BK223 := n1_; have HK := n2_; have HB := n3_; have BK226 := n4_; have GW226 := n5_; have GE226 := n6_; have NB223_226 := n7_; have NB226_223 := n8_; have NB0_226 := n9_; have NB226_0 := n10_; clear n0_ n1_ n2_ n3_ n4_ n5_ n6_ n7_ n8_ n9_ n10_; clear hb hbox hg; have hnb10 := NB226_223.out; have hnc10 := NB223_226.out; have hnb11 := NB226_0.out; have hnc11 := NB0_226.out; have hcz12_0 : w9.cell? ⟨gb226, 0, none⟩ = some (.int .i64 0) := (blk_cell BK226.out 0).trans rfl; have hcz12_1 : w9.cell? ⟨gb226, 1, none⟩ = some (.slice none 0 0) := (blk_cell BK226.out 1).trans rfl; have hfz12_0 := blk_frozen BK226.out 0; have hfz12_1 := blk_frozen BK226.out 1) | ((with_reducible refine gate_dst (N := 13) rfl ?_); refine Kd.R_lit (Kd.int .i64) _ 3 ?hg (N := 13) ?hd (xs := ([7] : List Int)) (inner := [.int .i64 7]) (ok := fun _ => True) (okp := fun _ => True) ?hr ?hp (fun _ hk => hk) trivial (Below.refl _ _) (Nat.le_refl _) (by simp) ?_; (case hd => rfl); (case hg => rfl); (case hr => first | (go_simp; done) | (go_simp; rfl)); (case hp => exact (Reps.one (show Kd.M (Kd.int .i64) _ _ _ 7 [.int .i64 7] from rfl) (Reps.none _ _))); intro v228 w13 ho14 hb hg_ hnew_; clear hg_ hnew_; (first | rw [← Ny227.out] at ho14 | (simp only [Int.reduceToNat] at ho14; rw [← Ny227.out] at ho14)); have n0_ := Aside0.mk (Kd.R_lower ho14 (keep_size (w := w) (g := g) (row := none) (by repeat (first | (with_reducible first | exact HK.out | apply KeepBut.set_ | apply keep_drewN | apply keep_drew | apply keep_alloc | refine keep_far ?_ GW223.out _ | refine keep_far ?_ GW226.out _) | exact HK.out)))); have n1_ := Aside0.mk (IsS74.below (show IsS74 w0 ((w9.setCell ⟨gb226, 0, none⟩ (.int .i64 ji3)).setCell ⟨gb226, 1, none⟩ (.slice none 0 0)) g s0_0 t225 from by repeat (first | (with_reducible first | exact HI0.out | apply IsS74.alloc | apply IsS74.drewN | apply IsS74.drew | apply IsS74.set_1 | refine IsS74.far ?_ NB0_223.out _ | refine IsS74.far ?_ NB0_226.out _) | exact HI0.out)) hb); have n2_ := Aside0.mk (blk_below (g := gb223) (o := .cells #[.int .i64 0, .slice none 0 0] 25 (0, 0)) (by (with_reducible repeat (first | refine blk_drewN ?_ _ | refine blk_drew ?_ | refine blk_alloc ?_ _)); refine blk_far ?_ NB223_226.out _; (with_reducible repeat (first | refine blk_drewN ?_ _ | refine blk_drew ?_ | refine blk_alloc ?_ _)); refine blk_far ?_ NB223_226.out _; (with_reducible repeat (first | refine blk_drewN ?_ _ | refine blk_drew ?_ | refine blk_alloc ?_ _)); exact BK223.out) hb); have n3_ := Aside0.mk (blk_below (g := gb226) (o := .cells #[.int .i64 ji3, .slice none 0 0] 25 (0, 0)) (by (with_reducible repeat (first | refine blk_drewN ?_ _ | refine blk_drew ?_ | refine blk_alloc ?_ _)); refine blk_put (cs := #[.int .i64 ji3, .slice none 0 0]) ?_ 1 _ rfl; (with_reducible repeat (first | refine blk_drewN ?_ _ | refine blk_drew ?_ | refine blk_alloc ?_ _)); refine blk_put (cs := #[.int .i64 0, .slice none 0 0]) ?_ 0 _ rfl; (with_reducible repeat (first | refine blk_drewN ?_ _ | refine blk_drew ?_ | refine blk_alloc ?_ _)); exact BK226.out) hb); have n4_ := Aside0.mk (KeepBut.trans (by repeat (first | (with_reducible first | exact HK.out | apply KeepBut.set_ | apply keep_drewN | apply keep_drew | apply keep_alloc | refine keep_far ?_ GW223.out _ | refine keep_far ?_ GW226.out _) | exact HK.out)) (KeepBut.of_below hb g none) (.inl rfl)); have n5_ := Aside0.mk (below_step (by repeat (first | (with_reducible first | exact HB.out | apply below_alloc | apply pw_below_drewN | apply below_drew1 | refine below_set ?_ (IsS74.ge HI0.out) | refine below_set ?_ GE223.out | refine below_set ?_ GE226.out) | exact HB.out)) hb); clear HI0; clear BK223; clear BK226; clear HK; clear HB; have HO229 := n0_; have HI0 := n1_; have BK223 := n2_; have BK226 := n3_; have HK := n4_; have HB := n5_; clear n0_ n1_ n2_ n3_ n4_ n5_; clear hb ho14) | ((with_reducible refine gate_dst (N := 14) rfl ?_); refine Kd.R_lit (Kd.int .i64) _ 3 ?hg (N := 14) ?hd (xs := ([7] : List Int)) (inner := [.int .i64 7]) (ok := fun _ => True) (okp := fun _ => True) ?hr ?hp (fun _ hk => hk) trivial (Below.refl _ _) (Nat.le_refl _) (by simp) ?_; (case hd => rfl); (case hg => rfl); (case hr => first | (go_simp; done) | (go_simp; rfl)); (case hp => exact (Reps.one (show Kd.M (Kd.int .i64) _ _ _ 7 [.int .i64 7] from rfl) (Reps.none _ _))); intro v231 w15 ho16 hb hg_ hnew_; clear hg_ hnew_; (first | rw [← Ny230.out] at ho16 | (simp only [Int.reduceToNat] at ho16; rw [← Ny230.out] at ho16)); have n0_ := Aside0.mk (Kd.R_elder' (by (with_reducible repeat (first | apply Kd.R_alloc | apply Kd.R_drewN | apply Kd.R_drew)); exact HO229.out) (Kd.R_base ho16) hb); have n1_ := Aside0.mk (Kd.R_lower (Kd.R_new' ho16 (Kd.R_lt (by (with_reducible repeat (first | apply Kd.R_alloc | apply Kd.R_drewN | apply Kd.R_drew)); exact HO229.out))) (keep_size (w := w) (g := g) (row := none) (by repeat (first | (with_reducible first | exact HK.out | apply KeepBut.set_ | apply keep_drewN | apply keep_drew | apply keep_alloc | refine keep_far ?_ GW223.out _ | refine keep_far ?_ GW226.out _) | exact HK.out)))); have n2_ := Aside0.mk (IsS74.below (by repeat (first | (with_reducible first | exact HI0.out | apply IsS74.alloc | apply IsS74.drewN | apply IsS74.drew | apply IsS74.set_1 | refine IsS74.far ?_ NB0_223.out _ | refine IsS74.far ?_ NB0_226.out _) | exact HI0.out)) hb); have n3_ := Aside0.mk (blk_below (g := gb223) (o := .cells #[.int .i64 0, .slice none 0 0] 25 (0, 0)) (by (with_reducible repeat (first | refine blk_drewN ?_ _ | refine blk_drew ?_ | refine blk_alloc ?_ _)); exact BK223.out) hb); have n4_ := Aside0.mk (blk_below (g := gb226) (o := .cells #[.int .i64 ji3, .slice none 0 0] 25 (0, 0)) (by (with_reducible repeat (first | refine blk_drewN ?_ _ | refine blk_drew ?_ | refine blk_alloc ?_ _)); exact BK226.out) hb); have n5_ := Aside0.mk (KeepBut.trans (by repeat (first | (with_reducible first | exact HK.out | apply KeepBut.set_ | apply keep_drewN | apply keep_drew | apply keep_alloc | refine keep_far ?_ GW223.out _ | refine keep_far ?_ GW226.out _) | exact HK.out)) (KeepBut.of_below hb g none) (.inl rfl)); have n6_ := Aside0.mk (below_step (by repeat (first | (with_reducible first | exact HB.out | apply below_alloc | apply pw_below_drewN | apply below_drew1 | refine below_set ?_ (IsS74.ge HI0.out) | refine below_set ?_ GE223.out | refine below_set ?_ GE226.out) | exact HB.out)) hb); clear HO229; clear HI0; clear BK223; clear BK226; clear HK; clear HB; have HO229 := n0_; have HO232 := n1_; have HI0 := n2_; have BK223 := n3_; have BK226 := n4_; have HK := n5_; have HB := n6_; clear n0_ n1_ n2_ n3_ n4_ n5_ n6_; clear hb ho16) | ((with_reducible refine gate_dst (N := 15) rfl ?_); refine Kd.R_lit (Kd.int .i64) _ 3 ?hg (N := 15) ?hd (xs := ([3, 7] : List Int)) (inner := [.int .i64 3, .int .i64 7]) (ok := fun _ => True) (okp := fun _ => True) ?hr ?hp (fun _ hk => hk) trivial (Below.refl _ _) (Nat.le_refl _) (by simp) ?_; (case hd => rfl); (case hg => rfl); (case hr => first | (go_simp; done) | (go_simp; rfl)); (case hp => exact (Reps.one (show Kd.M (Kd.int .i64) _ _ _ 3 [.int .i64 3] from rfl) (Reps.one (show Kd.M (Kd.int .i64) _ _ _ 7 [.int .i64 7] from rfl) (Reps.none _ _)))); intro v234 w17 ho18 hb hg_ hnew_; clear hg_ hnew_; (first | rw [← Ny233.out] at ho18 | (simp only [Int.reduceToNat] at ho18; rw [← Ny233.out] at ho18)); have n0_ := Aside0.mk (Kd.R_elder' (by (with_reducible repeat (first | apply Kd.R_alloc | apply Kd.R_drewN | apply Kd.R_drew)); exact HO229.out) (Kd.R_base ho18) hb); have n1_ := Aside0.mk (Kd.R_elder' (by (with_reducible repeat (first | apply Kd.R_alloc | apply Kd.R_drewN | apply Kd.R_drew)); exact HO232.out) (Kd.R_base ho18) hb); have n2_ := Aside0.mk (Kd.R_lower (Kd.R_new' (Kd.R_new' ho18 (Kd.R_lt (by (with_reducible repeat (first | apply Kd.R_alloc | apply Kd.R_drewN | apply Kd.R_drew)); exact HO229.out))) (Kd.R_lt (by (with_reducible repeat (first | apply Kd.R_alloc | apply Kd.R_drewN | apply Kd.R_drew)); exact HO232.out))) (keep_size (w := w) (g := g) (row := none) (by repeat (first | (with_reducible first | exact HK.out | apply KeepBut.set_ | apply keep_drewN | apply keep_drew | apply keep_alloc | refine keep_far ?_ GW223.out _ | refine keep_far ?_ GW226.out _) | exact HK.out)))); have n3_ := Aside0.mk (IsS74.below (by repeat (first | (with_reducible first | exact HI0.out | apply IsS74.alloc | apply IsS74.drewN | apply IsS74.drew | apply IsS74.set_1 | refine IsS74.far ?_ NB0_223.out _ | refine IsS74.far ?_ NB0_226.out _) | exact HI0.out)) hb); have n4_ := Aside0.mk (blk_below (g := gb223) (o := .cells #[.int .i64 0, .slice none 0 0] 25 (0, 0)) (by (with_reducible repeat (first | refine blk_drewN ?_ _ | refine blk_drew ?_ | refine blk_alloc ?_ _)); exact BK223.out) hb); have n5_ := Aside0.mk (blk_below (g := gb226) (o := .cells #[.int .i64 ji3, .slice none 0 0] 25 (0, 0)) (by (with_reducible repeat (first | refine blk_drewN ?_ _ | refine blk_drew ?_ | refine blk_alloc ?_ _)); exact BK226.out) hb); have n6_ := Aside0.mk (KeepBut.trans (by repeat (first | (with_reducible first | exact HK.out | apply KeepBut.set_ | apply keep_drewN | apply keep_drew | apply keep_alloc | refine keep_far ?_ GW223.out _ | refine keep_far ?_ GW226.out _) | exact HK.out)) (KeepBut.of_below hb g none) (.inl rfl)); have n7_ := Aside0.mk (below_step (by repeat (first | (with_reducible first | exact HB.out | apply below_alloc | apply pw_below_drewN | apply below_drew1 | refine below_set ?_ (IsS74.ge HI0.out) | refine below_set ?_ GE223.out | refine below_set ?_ GE226.out) | exact HB.out)) hb); clear HO229; clear HO232; clear HI0; clear BK223; clear BK226; clear HK; clear HB; have HO229 := n0_; have HO232 := n1_; have HO235 := n2_; have HI0 := n3_; have BK223 := n4_; have BK226 := n5_; have HK := n6_; have HB := n7_; clear n0_ n1_ n2_ n3_ n4_ n5_ n6_ n7_; clear hb ho18) | ((with_reducible refine gate_dst (N := 16) rfl ?_); refine Kd.R_lit (Kd.int .i64) _ 3 ?hg (N := 16) ?hd (xs := ([8, 1] : List Int)) (inner := [.int .i64 8, .int .i64 1]) (ok := fun _ => True) (okp := fun _ => True) ?hr ?hp (fun _ hk => hk) trivial (Below.refl _ _) (Nat.le_refl _) (by simp) ?_; (case hd => rfl); (case hg => rfl); (case hr => first | (go_simp; done) | (go_simp; rfl)); (case hp => exact (Reps.one (show Kd.M (Kd.int .i64) _ _ _ 8 [.int .i64 8] from rfl) (Reps.one (show Kd.M (Kd.int .i64) _ _ _ 1 [.int .i64 1] from rfl) (Reps.none _ _)))); intro v237 w19 ho20 hb hg_ hnew_; clear hg_ hnew_; (first | rw [← Ny236.out] at ho20 | (simp only [Int.reduceToNat] at ho20; rw [← Ny236.out] at ho20)); have n0_ := Aside0.mk (Kd.R_elder' (by (with_reducible repeat (first | apply Kd.R_alloc | apply Kd.R_drewN | apply Kd.R_drew)); exact HO229.out) (Kd.R_base ho20) hb); have n1_ := Aside0.mk (Kd.R_elder' (by (with_reducible repeat (first | apply Kd.R_alloc | apply Kd.R_drewN | apply Kd.R_drew)); exact HO232.out) (Kd.R_base ho20) hb); have n2_ := Aside0.mk (Kd.R_elder' (by (with_reducible repeat (first | apply Kd.R_alloc | apply Kd.R_drewN | apply Kd.R_drew)); exact HO235.out) (Kd.R_base ho20) hb); have n3_ := Aside0.mk (Kd.R_lower (Kd.R_new' (Kd.R_new' (Kd.R_new' ho20 (Kd.R_lt (by (with_reducible repeat (first | apply Kd.R_alloc | apply Kd.R_drewN | apply Kd.R_drew)); exact HO229.out))) (Kd.R_lt (by (with_reducible repeat (first | apply Kd.R_alloc | apply Kd.R_drewN | apply Kd.R_drew)); exact HO232.out))) (Kd.R_lt (by (with_reducible repeat (first | apply Kd.R_alloc | apply Kd.R_drewN | apply Kd.R_drew)); exact HO235.out))) (keep_size (w := w) (g := g) (row := none) (by repeat (first | (with_reducible first | exact HK.out | apply KeepBut.set_ | apply keep_drewN | apply keep_drew | apply keep_alloc | refine keep_far ?_ GW223.out _ | refine keep_far ?_ GW226.out _) | exact HK.out)))); have n4_ := Aside0.mk (IsS74.below (by repeat (first | (with_reducible first | exact HI0.out | apply IsS74.alloc | apply IsS74.drewN | apply IsS74.drew | apply IsS74.set_1 | refine IsS74.far ?_ NB0_223.out _ | refine IsS74.far ?_ NB0_226.out _) | exact HI0.out)) hb); have n5_ := Aside0.mk (blk_below (g := gb223) (o := .cells #[.int .i64 0, .slice none 0 0] 25 (0, 0)) (by (with_reducible repeat (first | refine blk_drewN ?_ _ | refine blk_drew ?_ | refine blk_alloc ?_ _)); exact BK223.out) hb); have n6_ := Aside0.mk (blk_below (g := gb226) (o := .cells #[.int .i64 ji3, .slice none 0 0] 25 (0, 0)) (by (with_reducible repeat (first | refine blk_drewN ?_ _ | refine blk_drew ?_ | refine blk_alloc ?_ _)); exact BK226.out) hb); have n7_ := Aside0.mk (KeepBut.trans (by repeat (first | (with_reducible first | exact HK.out | apply KeepBut.set_ | apply keep_drewN | apply keep_drew | apply keep_alloc | refine keep_far ?_ GW223.out _ | refine keep_far ?_ GW226.out _) | exact HK.out)) (KeepBut.of_below hb g none) (.inl rfl)); have n8_ := Aside0.mk (below_step (by repeat (first | (with_reducible first | exact HB.out | apply below_alloc | apply pw_below_drewN | apply below_drew1 | refine below_set ?_ (IsS74.ge HI0.out) | refine below_set ?_ GE223.out | refine below_set ?_ GE226.out) | exact HB.out)) hb); clear HO229; clear HO232; clear HO235; clear HI0; clear BK223; clear BK226; clear HK; clear HB; have HO229 := n0_; have HO232 := n1_; have HO235 := n2_; have HO238 := n3_; have HI0 := n4_; have BK223 := n5_; have BK226 := n6_; have HK := n7_; have HB := n8_; clear n0_ n1_ n2_ n3_ n4_ n5_ n6_ n7_ n8_; clear hb ho20; obtain ⟨Ao21, co21, eo21⟩ := Kd.R_slice HO229.out; subst eo21; obtain ⟨Ao22, co22, eo22⟩ := Kd.R_slice HO232.out; subst eo22; obtain ⟨Ao23, co23, eo23⟩ := Kd.R_slice HO235.out; subst eo23; obtain ⟨Ao24, co24, eo24⟩ := Kd.R_slice HO238.out; subst eo24) | ((with_reducible refine gate_dst (N := 17) rfl ?_); refine Kd.N_lit (Kd.slice 3 (Kd.int .i64)) _ 37 ?hg (N' := 17) ?hd (xs := ([[], y227, y230, y233, y236] : List (List Int))) (inner := [.slice none 0 0, .slice Ao21 y227.length co21, .slice Ao22 y230.length co22, .slice Ao23 y233.length co23, .slice Ao24 y236.length co24]) (ok := (fun k_ => k_ ≠ gb223 ∧ k_ ≠ gb226 ∧ k_ ≠ g)) (okp := (fun k_ => k_ ≠ gb223 ∧ k_ ≠ gb226 ∧ k_ ≠ g)) ?hr ?hp (fun _ hk => hk) ((show ∀ k_, w19.heap.size ≤ k_ → (fun k_ => k_ ≠ gb223 ∧ k_ ≠ gb226 ∧ k_ ≠ g) k_ from fun k_ hk => ⟨Kd.freshB (g := gb223) (o := .cells #[.int .i64 0, .slice none 0 0] 25 (0, 0)) (by (with_reducible repeat (first | refine blk_drewN ?_ _ | refine blk_drew ?_ | refine blk_alloc ?_ _)); exact BK223.out) k_ hk, Kd.freshB (g := gb226) (o := .cells #[.int .i64 ji3, .slice none 0 0] 25 (0, 0)) (by (with_reducible repeat (first | refine blk_drewN ?_ _ | refine blk_drew ?_ | refine blk_alloc ?_ _)); exact BK226.out) k_ hk, IsS74.fresh (by repeat (first | (with_reducible first | exact HI0.out | apply IsS74.alloc | apply IsS74.drewN | apply IsS74.drew | apply IsS74.set_1 | refine IsS74.far ?_ NB0_223.out _ | refine IsS74.far ?_ NB0_226.out _) | exact HI0.out)) k_ hk⟩) _ (Nat.le_refl _)) (Below.refl _ _) (Nat.le_refl _) (by simp) ?_; (case hd => rfl); (case hg => rfl); (case hr => first | (go_simp; done) | (go_simp; rfl)); (case hp => exact (Reps.one (show Kd.FK (Kd.slice 3 (Kd.int .i64)) _ _ [] [.slice none 0 0] from (Kd.FK_slice_mk (Nat.le_refl _) (Kd.F_nil _ _ _))) (Reps.one (show Kd.FK (Kd.slice 3 (Kd.int .i64)) _ _ y227 [.slice Ao21 y227.length co21] from (Kd.FK_slice_mk (Kd.R_reads' (Kd.R_mono (ok' := (fun k_ => k_ ≠ gb223 ∧ k_ ≠ gb226 ∧ k_ ≠ g)) (IsS74.apart HI0.out (Kd.R_types (Kd.R_types (HO229.out) BK223.out (by decide)) BK226.out (by decide)) (by decide)) (fun k_ hk => ⟨hk.1.1.2, ⟨hk.1.2, hk.2⟩⟩))).2.1 (Kd.R_F (Kd.R_mono (ok' := (fun k_ => k_ ≠ gb223 ∧ k_ ≠ gb226 ∧ k_ ≠ g)) (IsS74.apart HI0.out (Kd.R_types (Kd.R_types (HO229.out) BK223.out (by decide)) BK226.out (by decide)) (by decide)) (fun k_ hk => ⟨hk.1.1.2, ⟨hk.1.2, hk.2⟩⟩))))) (Reps.one (show Kd.FK (Kd.slice 3 (Kd.int .i64)) _ _ y230 [.slice Ao22 y230.length co22] from (Kd.FK_slice_mk (Kd.R_reads' (Kd.R_mono (ok' := (fun k_ => k_ ≠ gb223 ∧ k_ ≠ gb226 ∧ k_ ≠ g)) (IsS74.apart HI0.out (Kd.R_types (Kd.R_types (HO232.out) BK223.out (by decide)) BK226.out (by decide)) (by decide)) (fun k_ hk => ⟨hk.1.1.2, ⟨hk.1.2, hk.2⟩⟩))).2.1 (Kd.R_F (Kd.R_mono (ok' := (fun k_ => k_ ≠ gb223 ∧ k_ ≠ gb226 ∧ k_ ≠ g)) (IsS74.apart HI0.out (Kd.R_types (Kd.R_types (HO232.out) BK223.out (by decide)) BK226.out (by decide)) (by decide)) (fun k_ hk => ⟨hk.1.1.2, ⟨hk.1.2, hk.2⟩⟩))))) (Reps.one (show Kd.FK (Kd.slice 3 (Kd.int .i64)) _ _ y233 [.slice Ao23 y233.length co23] from (Kd.FK_slice_mk (Kd.R_reads' (Kd.R_mono (ok' := (fun k_ => k_ ≠ gb223 ∧ k_ ≠ gb226 ∧ k_ ≠ g)) (IsS74.apart HI0.out (Kd.R_types (Kd.R_types (HO235.out) BK223.out (by decide)) BK226.out (by decide)) (by decide)) (fun k_ hk => ⟨hk.1.1.2, ⟨hk.1.2, hk.2⟩⟩))).2.1 (Kd.R_F (Kd.R_mono (ok' := (fun k_ => k_ ≠ gb223 ∧ k_ ≠ gb226 ∧ k_ ≠ g)) (IsS74.apart HI0.out (Kd.R_types (Kd.R_types (HO235.out) BK223.out (by decide)) BK226.out (by decide)) (by decide)) (fun k_ hk => ⟨hk.1.1.2, ⟨hk.1.2, hk.2⟩⟩))))) (Reps.one (show Kd.FK (Kd.slice 3 (Kd.int .i64)) _ _ y236 [.slice Ao24 y236.length co24] from (Kd.FK_slice_mk (Kd.R_reads' (Kd.R_mono (ok' := (fun k_ => k_ ≠ gb223 ∧ k_ ≠ gb226 ∧ k_ ≠ g)) (IsS74.apart HI0.out (Kd.R_types (Kd.R_types (HO238.out) BK223.out (by decide)) BK226.out (by decide)) (by decide)) (fun k_ hk => ⟨hk.1.1.2, ⟨hk.1.2, hk.2⟩⟩))).2.1 (Kd.R_F (Kd.R_mono (ok' := (fun k_ => k_ ≠ gb223 ∧ k_ ≠ gb226 ∧ k_ ≠ g)) (IsS74.apart HI0.out (Kd.R_types (Kd.R_types (HO238.out) BK223.out (by decide)) BK226.out (by decide)) (by decide)) (fun k_ hk => ⟨hk.1.1.2, ⟨hk.1.2, hk.2⟩⟩))))) (Reps.none _ _))))))); intro v240 w25 ho26 hb hg_ hnew_; clear hg_ hnew_; (first | rw [← Ny239.out] at ho26 | (simp only [Int.reduceToNat] at ho26; rw [← Ny239.out] at ho26)); have n0_ := Aside0.mk (Kd.N_lower ho26 (keep_size (w := w) (g := g) (row := none) (by repeat (first | (with_reducible first | exact HK.out | apply KeepBut.set_ | apply keep_drewN | apply keep_drew | apply keep_alloc | refine keep_far ?_ GW223.out _ | refine keep_far ?_ GW226.out _) | exact HK.out)))); have n1_ := Aside0.mk (IsS74.below (by repeat (first | (with_reducible first | exact HI0.out | apply IsS74.alloc | apply IsS74.drewN | apply IsS74.drew | apply IsS74.set_1 | refine IsS74.far ?_ NB0_223.out _ | refine IsS74.far ?_ NB0_226.out _) | exact HI0.out)) hb); have n2_ := Aside0.mk (blk_below (g := gb223) (o := .cells #[.int .i64 0, .slice none 0 0] 25 (0, 0)) (by (with_reducible repeat (first | refine blk_drewN ?_ _ | refine blk_drew ?_ | refine blk_alloc ?_ _)); exact BK223.out) hb); have n3_ := Aside0.mk (blk_below (g := gb226) (o := .cells #[.int .i64 ji3, .slice none 0 0] 25 (0, 0)) (by (with_reducible repeat (first | refine blk_drewN ?_ _ | refine blk_drew ?_ | refine blk_alloc ?_ _)); exact BK226.out) hb); have n4_ := Aside0.mk (KeepBut.trans (by repeat (first | (with_reducible first | exact HK.out | apply KeepBut.set_ | apply keep_drewN | apply keep_drew | apply keep_alloc | refine keep_far ?_ GW223.out _ | refine keep_far ?_ GW226.out _) | exact HK.out)) (KeepBut.of_below hb g none) (.inl rfl)); have n5_ := Aside0.mk (below_step (by repeat (first | (with_reducible first | exact HB.out | apply below_alloc | apply pw_below_drewN | apply below_drew1 | refine below_set ?_ (IsS74.ge HI0.out) | refine below_set ?_ GE223.out | refine below_set ?_ GE226.out) | exact HB.out)) hb); clear HI0; clear BK223; clear BK226; clear HK; clear HB; clear HO229; clear HO232; clear HO235; clear HO238; have HO241 := n0_; have HI0 := n1_; have BK223 := n2_; have BK226 := n3_; have HK := n4_; have HB := n5_; clear n0_ n1_ n2_ n3_ n4_ n5_; clear hb ho26; have hcz27_0 : w25.cell? ⟨gb226, 0, none⟩ = some (.int .i64 ji3) := (blk_cell BK226.out 0).trans rfl; have hcz27_1 : w25.cell? ⟨gb226, 1, none⟩ = some (.slice none 0 0) := (blk_cell BK226.out 1).trans rfl; have hfz27_0 := blk_frozen BK226.out 0; have hfz27_1 := blk_frozen BK226.out 1; obtain ⟨Ao28, co28, eo28⟩ := Kd.N_slice HO241.out; subst eo28; have p242 : 0 ≤ ((ji3) : Int) := of_decide_eq_true (by first | (with_reducible assumption) | assumption); have q242 : (ji3) < (y239.length : Int) := of_decide_eq_true (by first | (with_reducible assumption) | assumption); obtain ⟨ad242, A242_0, c242_0, e242, hx242_0, hl242_0, hi242_0⟩ := at_L1 (Kd.N_reads' HO241.out).2.2 (ji3) p242 q242; cases e242; obtain ⟨ce242, hce242, hMe242, hcc242⟩ := Kd.N_get HO241.out [] (ji3) p242 (by first | exact q242 | exact of_decide_eq_true (by first | (with_reducible assumption) | assumption) | (have e_ := (Kd.N_reads' HO241.out).1; omega)); obtain ⟨ua242_0, uc242_0, rfl, ul242_0, ge242_0⟩ := Kd.FK_slice_open hMe242; have hv242_0 := hcc242 0 _ rfl; rw [Nat.add_zero, show ((Kd.slice 3 (Kd.int .i64))).sz = 1 from rfl, Nat.mul_one] at hv242_0; replace hv242_0 := Option.some.inj (hv242_0.symm.trans hx242_0); injection hv242_0 with hva_ hvn_ hvc_; rw [hva_] at ge242_0; rw [hvc_] at ul242_0; have HL242_0 := Aside0.mk (show Kd.V (Kd.int .i64) 3 _ w.heap.size _ _ (rd_L1 y239 (ji3)) from Kd.V_mk ul242_0 ge242_0); clear hva_ hvn_ hvc_ ge242_0 ul242_0; clear hcc242 hce242; have HR242_0 := Aside0.mk hi242_0; have HC242_0 := Aside0.mk hl242_0; clear hi242_0 hl242_0; replace p242 := eq_true p242; replace q242 := eq_true q242; have n0_ := Aside0.mk (Kd.V_mono HL242_0.out (fun _ hk_ => hk_.1)); clear HL242_0; have HL242_0 := n0_; clear n0_; (try clear HO241)) | ((with_reducible refine gate_callee (f := 39) rfl ?_); refine goesL_ (some 23) rfl rfl Try.func39 (by kernel_rfl) rfl #[.pointer (some ⟨g, 0, none⟩), .int .i64 3] rfl (by (try simp only [List.map_toArray, List.map_cons, List.map_nil]); first | done | rfl | (simp only [List.length_drop, List.length_take]; rfl)) ?_; (with_reducible refine (keyeventkit_Dice_Next.calls g s0_0 t225 3 t243 t244 w0 _ ?side1 ?side2 A6.out).mono ?_); (case side1 => repeat (first | (with_reducible first | exact HI0.out | apply IsS74.alloc | apply IsS74.drewN | apply IsS74.drew | apply IsS74.set_1 | refine IsS74.far ?_ NB0_223.out _ | refine IsS74.far ?_ NB0_226.out _) | exact HI0.out)); (case side2 => repeat (first | (with_reducible first | exact HB.out | apply below_alloc | apply pw_below_drewN | apply below_drew1 | refine below_set ?_ (IsS74.ge HI0.out) | refine below_set ?_ GE223.out | refine below_set ?_ GE226.out) | exact HB.out)); rintro e w29 ⟨rfl, hi, hb, hk⟩; refine ⟨_, rfl, ?_⟩; have n0_ := Aside0.mk (KeepBut.blk hk (g' := gb223) (o := .cells #[.int .i64 0, .slice none 0 0] 25 (0, 0)) (by (with_reducible repeat (first | refine blk_drewN ?_ _ | refine blk_drew ?_ | refine blk_alloc ?_ _)); exact BK223.out) NB223_0.out (by simp)); have n1_ := Aside0.mk (KeepBut.blk hk (g' := gb226) (o := .cells #[.int .i64 ji3, .slice none 0 0] 25 (0, 0)) (by (with_reducible repeat (first | refine blk_drewN ?_ _ | refine blk_drew ?_ | refine blk_alloc ?_ _)); exact BK226.out) NB226_0.out (by simp)); have n2_ := Aside0.mk (Kd.V_mono (Kd.V_keep (Kd.V_mono (ok := fun k_ => (k_ ≠ gb223 ∧ (k_ ≠ gb226 ∧ k_ ≠ g))) (by (with_reducible repeat (first | apply Kd.V_alloc | apply Kd.V_drewN | apply Kd.V_drew)); exact HL242_0.out) (fun k_ hk_ => (⟨hk_, hk_.2.2⟩ : _ ∧ k_ ≠ g))) hk (fun _ h => h.2)) (fun _ h => h.1)); have n3_ := Aside0.mk (KeepBut.trans (by repeat (first | (with_reducible first | exact HK.out | apply KeepBut.set_ | apply keep_drewN | apply keep_drew | apply keep_alloc | refine keep_far ?_ GW223.out _ | refine keep_far ?_ GW226.out _) | exact HK.out)) hk (.inl rfl)); have n4_ := Aside0.mk (hb); have n5_ := Aside0.mk (hi); clear BK223; clear BK226; clear HL242_0; clear HK; clear HB; clear HI0; have BK223 := n0_; have BK226 := n1_; have HL242_0 := n2_; have HK := n3_; have HB := n4_; have HI0 := n5_; clear n0_ n1_ n2_ n3_ n4_ n5_; (try clear hb); (try clear hb2); (try clear hk); (try clear hi)))
   go_loopg [5] k (fun kq v5 w' => ∃ (x5_1 : Int) (x1001_1 : Int) (x227001_1 : List (S27)) (u227001 : Value), v5 = .int .i64 x5_1 ∧ Aside0 (keyeventkit_Group.l0 kq (rd_L1 y239 (ji3)) x5_1 s0_0 x1001_1 ji3 x227001_1 = some (r1, r2, r3)) ∧ Aside0 (kq ≤ k) ∧ Aside0 (Kd.V (Kd.int .i64) 3 w' w.heap.size (fun k_ => some k_ ≠ (u227001 : Value).ownBlock ∧ k_ ≠ gb223 ∧ k_ ≠ gb226 ∧ k_ ≠ g) (.slice A242_0 (rd_L1 y239 (ji3)).length c242_0) (rd_L1 y239 (ji3))) ∧ Aside0 (Kd.R k27 27 w' w.heap.size (fun _ => True) u227001 x227001_1) ∧ Aside0 (w'.heap[gb223]? = some (.cells #[.int .i64 0, (.slice none 0 0)] 25 (0, 0))) ∧ Aside0 (w'.heap[gb226]? = some (.cells #[.int .i64 ji3, u227001] 25 (0, 0))) ∧ Aside0 (IsS74 w0 w' g s0_0 x1001_1) ∧ Aside0 (KeepBut w w' g none) ∧ Aside0 (Below w0.heap.size w0 w'))
   case atStart => exact ⟨(t243), (t244), (([] : List (S27))), (.slice none 0 0), (by first | rfl | (simp; done) | (simp [*]; done)), H', ⟨Nat.le_refl _⟩, ⟨by (with_reducible repeat (first | apply Kd.V_alloc | apply Kd.V_drewN | apply Kd.V_drew)); exact Kd.V_mono HL242_0.out (fun _ hk => ⟨(by simp [Value.ownBlock]), ⟨hk.1, ⟨hk.2.1, hk.2.2⟩⟩⟩)⟩, ⟨by first | exact Kd.R_nil _ _ _ _ _ | exact Kd.N_nil _ _ _ _ _ | exact Kd.V_nil _ _ _ _ _ | exact Kd.Q_nil _ _ _ _ _ | exact Kd.S_nil _ _ _ _ _⟩, ⟨by (with_reducible repeat (first | refine blk_drewN ?_ _ | refine blk_drew ?_ | refine blk_alloc ?_ _)); exact BK223.out⟩, ⟨by (with_reducible repeat (first | refine blk_drewN ?_ _ | refine blk_drew ?_ | refine blk_alloc ?_ _)); exact BK226.out⟩, ⟨by repeat (first | (with_reducible first | exact HI0.out | apply IsS74.alloc | apply IsS74.drewN | apply IsS74.drew | apply IsS74.set_1 | refine IsS74.far ?_ NB0_223.out _ | refine IsS74.far ?_ NB0_226.out _) | exact HI0.out)⟩, ⟨by repeat (first | (with_reducible first | exact HK.out | apply KeepBut.set_ | apply keep_drewN | apply keep_drew | apply keep_alloc | refine keep_far ?_ GW223.out _ | refine keep_far ?_ GW226.out _) | exact HK.out)⟩, ⟨by repeat (first | (with_reducible first | exact HB.out | apply below_alloc | apply pw_below_drewN | apply below_drew1 | refine below_set ?_ (IsS74.ge HI0.out) | refine below_set ?_ GE223.out | refine below_set ?_ GE226.out) | exact HB.out)⟩⟩
   case round =>
    clear H'
    try clear c1
    try clear c2
    try clear p2
    try clear q2
    try clear hx2
    try clear c3
    try clear c4
    try clear c4b0
    try clear c5
    try clear c5b0
    try clear p6
    try clear c10
    try clear c11
    try clear c15
    try clear c24
    try clear p24
    try clear q24
    try clear hx24
    try clear hcz12_0
    try clear hcz12_1
    try clear hcz27_0
    try clear hcz27_1
    try clear hfz12_0
    try clear hfz12_1
    try clear hfz27_0
    try clear hfz27_1
    try clear hx242_0
    try clear p242
    try clear q242
    obtain ⟨x5_1, x1001_1, x227001_1, u227001, rfl, HA, HK1, HO_4, HO_227001, BK223, BK226, HI0, HK, HB⟩ := hrel
    cases gk with
    | zero => exact absurd HA.out (by simp [keyeventkit_Group.l0])
    | succ k1 =>
     have H := HA.out
     clear HA
     simp only [keyeventkit_Group.l0] at H
     by_cases c30 : x5_1 > 0
     ·rw [if_pos c30] at H
      have c30b0 : decide (0 < x5_1) = true := decide_eq_true c30
      clear c30
      have H' := Aside0.mk H
      clear H
      go_wp2
      go_loopg [30] k1 (fun kq v30 w' => ∃ (x30_2 : Int) (x1001_2 : Int) (x227001_2 : List (S27)) (u227001 : Value), v30 = .int .i64 x30_2 ∧ Aside0 (keyeventkit_Group.l1 kq (rd_L1 y239 (ji3)) x5_1 (rd_L1 y239 (ji3)) ((rd_L1 y239 (ji3)).length : Int) x30_2 s0_0 x1001_2 ji3 x227001_2 = some (r1, r2, r3)) ∧ Aside0 (kq ≤ k1) ∧ Aside0 (Kd.V (Kd.int .i64) 3 w' w.heap.size (fun k_ => some k_ ≠ (u227001 : Value).ownBlock ∧ k_ ≠ gb223 ∧ k_ ≠ gb226 ∧ k_ ≠ g) (.slice A242_0 (rd_L1 y239 (ji3)).length c242_0) (rd_L1 y239 (ji3))) ∧ Aside0 (Kd.V (Kd.int .i64) 3 w' w.heap.size (fun k_ => some k_ ≠ (u227001 : Value).ownBlock ∧ k_ ≠ gb223 ∧ k_ ≠ gb226 ∧ k_ ≠ g) (.slice A242_0 (rd_L1 y239 (ji3)).length c242_0) (rd_L1 y239 (ji3))) ∧ Aside0 (Kd.R k27 27 w' w.heap.size (fun _ => True) u227001 x227001_2) ∧ Aside0 (w'.heap[gb223]? = some (.cells #[.int .i64 0, (.slice none 0 0)] 25 (0, 0))) ∧ Aside0 (w'.heap[gb226]? = some (.cells #[.int .i64 ji3, u227001] 25 (0, 0))) ∧ Aside0 (IsS74 w0 w' g s0_0 x1001_2) ∧ Aside0 (KeepBut w w' g none) ∧ Aside0 (Below w0.heap.size w0 w'))
      case atStart => exact ⟨(0), (x1001_1), (x227001_1), (u227001), (by first | rfl | (simp; done) | (simp [*]; done)), H', ⟨Nat.le_refl _⟩, ⟨by (with_reducible repeat (first | apply Kd.V_alloc | apply Kd.V_drewN | apply Kd.V_drew)); exact HO_4.out⟩, ⟨by (with_reducible repeat (first | apply Kd.V_alloc | apply Kd.V_drewN | apply Kd.V_drew)); exact HO_4.out⟩, ⟨by (with_reducible repeat (first | apply Kd.R_alloc | apply Kd.R_drewN | apply Kd.R_drew)); exact HO_227001.out⟩, ⟨by (with_reducible repeat (first | refine blk_drewN ?_ _ | refine blk_drew ?_ | refine blk_alloc ?_ _)); exact BK223.out⟩, ⟨by (with_reducible repeat (first | refine blk_drewN ?_ _ | refine blk_drew ?_ | refine blk_alloc ?_ _)); exact BK226.out⟩, ⟨by repeat (first | (with_reducible first | exact HI0.out | apply IsS74.alloc | apply IsS74.drewN | apply IsS74.drew | apply IsS74.set_1 | refine IsS74.far ?_ NB0_223.out _ | refine IsS74.far ?_ NB0_226.out _) | exact HI0.out)⟩, ⟨by repeat (first | (with_reducible first | exact HK.out | apply KeepBut.set_ | apply keep_drewN | apply keep_drew | apply keep_alloc | refine keep_far ?_ GW223.out _ | refine keep_far ?_ GW226.out _) | exact HK.out)⟩, ⟨by repeat (first | (with_reducible first | exact HB.out | apply below_alloc | apply pw_below_drewN | apply below_drew1 | refine below_set ?_ (IsS74.ge HI0.out) | refine below_set ?_ GE223.out | refine below_set ?_ GE226.out) | exact HB.out)⟩⟩
      case round =>
       clear H'
       try clear c1
       try clear c2
       try clear p2
       try clear q2
       try clear hx2
       try clear c3
       try clear c4
       try clear c4b0
       try clear c5
       try clear c5b0
       try clear p6
       try clear c10
       try clear c11
       try clear c15
       try clear c24
       try clear p24
       try clear q24
       try clear hx24
       try clear c30
       try clear c30b0
       try clear hcz12_0
       try clear hcz12_1
       try clear hcz27_0
       try clear hcz27_1
       try clear hfz12_0
       try clear hfz12_1
       try clear hfz27_0
       try clear hfz27_1
       try clear hx242_0
       try clear p2
       try clear p24
       try clear p242
       try clear p6
       try clear q2
       try clear q24
       try clear q242
       obtain ⟨x30_2, x1001_2, x227001_2, u227001, rfl, HA, HK2, HO_4, HO_28, HO_227001, BK223, BK226, HI0, HK, HB⟩ := hrel
       cases gk with
       | zero => exact absurd HA.out (by simp [keyeventkit_Group.l1])
       | succ k2 =>
        have H := HA.out
        clear HA
        simp only [keyeventkit_Group.l1] at H
        by_cases c31 : x30_2 < ((rd_L1 y239 (ji3)).length : Int)
        ·rw [if_pos c31] at H
         have c31b0 : decide (x30_2 < ((rd_L1 y239 (ji3)).length : Int)) = true := decide_eq_true c31
         clear c31
         by_cases c32 : 0 ≤ x30_2
         ·rw [if_pos c32] at H
          have c32b0 : decide (0 ≤ x30_2) = true := decide_eq_true c32
          clear c32
          by_cases c33 : x30_2 < ((rd_L1 y239 (ji3)).length : Int)
          ·rw [if_pos c33] at H
           have c33b0 : decide (x30_2 < ((rd_L1 y239 (ji3)).length : Int)) = true := decide_eq_true c33
           clear c33
           replace H := Option.bind_eq_some_iff.mp H
           obtain ⟨⟨t246, t247⟩, A340, H⟩ := H
           replace H : (keyeventkit_Group.l2 k2 (rd_L1 y239 (ji3)) x5_1 (rd (rd_L1 y239 (ji3)) x30_2) (rd_L1 y239 (ji3)) ((rd_L1 y239 (ji3)).length : Int) x30_2 s0_0 t247 ji3 x227001_2 (rd (rd_L1 y239 (ji3)) x30_2) t246) = some (r1, r2, r3) := H
           have A34 := Aside0.mk A340
           clear A340
           have H' := Aside0.mk H
           clear H
           have p245 : 0 ≤ (x30_2 : Int) := of_decide_eq_true (by first | (with_reducible assumption) | assumption)
           have q245 : x30_2 < ((rd_L1 y239 (ji3)).length : Int) := of_decide_eq_true (by first | (with_reducible assumption) | assumption)
           obtain ⟨ad245, e245, hx245_0⟩ := Kd.at_int (Kd.V_reads' HO_28.out).2.2 x30_2 p245 q245
           cases e245
           replace p245 := eq_true p245
           replace q245 := eq_true q245
           go_wp2_with (first | ((with_reducible refine gate_callee (f := 40) rfl ?_); refine goesL_ (some 36) rfl rfl Try.func40 (by kernel_rfl) rfl #[.pointer (some ⟨g, 0, none⟩), .int .i64 4] rfl (by (try simp only [List.map_toArray, List.map_cons, List.map_nil]); first | done | rfl | (simp only [List.length_drop, List.length_take]; rfl)) ?_; (with_reducible refine (keyeventkit_Dice_Bytes.calls k2 g s0_0 x1001_2 4 t246 t247 w0 _ ?side1 ?side2 A34.out).mono ?_); (case side1 => repeat (first | (with_reducible first | exact HI0.out | apply IsS74.alloc | apply IsS74.drewN | apply IsS74.drew | apply IsS74.set_1 | refine IsS74.far ?_ NB0_223.out _ | refine IsS74.far ?_ NB0_226.out _) | exact HI0.out)); (case side2 => repeat (first | (with_reducible first | exact HB.out | apply below_alloc | apply pw_below_drewN | apply below_drew1 | refine below_set ?_ (IsS74.ge HI0.out) | refine below_set ?_ GE223.out | refine below_set ?_ GE226.out) | exact HB.out)); rintro e w35 ⟨rfl, hi, hb, hk⟩; refine ⟨_, rfl, ?_⟩; have n0_ := Aside0.mk (Kd.V_mono (Kd.V_keep (Kd.V_mono (ok := fun k_ => (some k_ ≠ (u227001 : Value).ownBlock ∧ (k_ ≠ gb223 ∧ (k_ ≠ gb226 ∧ k_ ≠ g)))) (by (with_reducible repeat (first | apply Kd.V_alloc | apply Kd.V_drewN | apply Kd.V_drew)); exact HO_4.out) (fun k_ hk_ => (⟨hk_, hk_.2.2.2⟩ : _ ∧ k_ ≠ g))) hk (fun _ h => h.2)) (fun _ h => h.1)); have n1_ := Aside0.mk (Kd.V_mono (Kd.V_keep (Kd.V_mono (ok := fun k_ => (some k_ ≠ (u227001 : Value).ownBlock ∧ (k_ ≠ gb223 ∧ (k_ ≠ gb226 ∧ k_ ≠ g)))) (by (with_reducible repeat (first | apply Kd.V_alloc | apply Kd.V_drewN | apply Kd.V_drew)); exact HO_28.out) (fun k_ hk_ => (⟨hk_, hk_.2.2.2⟩ : _ ∧ k_ ≠ g))) hk (fun _ h => h.2)) (fun _ h => h.1)); have n2_ := Aside0.mk (Kd.R_mono (Kd.R_keep (IsS74.apart (show IsS74 w0 _ g s0_0 x1001_2 from by repeat (first | (with_reducible first | exact HI0.out | apply IsS74.alloc | apply IsS74.drewN | apply IsS74.drew | apply IsS74.set_1 | refine IsS74.far ?_ NB0_223.out _ | refine IsS74.far ?_ NB0_226.out _) | exact HI0.out)) (by (with_reducible repeat (first | apply Kd.R_alloc | apply Kd.R_drewN | apply Kd.R_drew)); exact HO_227001.out) (by decide)) hk (fun _ h => h.2)) (fun _ h => h.1)); have n3_ := Aside0.mk (KeepBut.blk hk (g' := gb223) (o := .cells #[.int .i64 0, .slice none 0 0] 25 (0, 0)) (by (with_reducible repeat (first | refine blk_drewN ?_ _ | refine blk_drew ?_ | refine blk_alloc ?_ _)); exact BK223.out) NB223_0.out (by simp)); have n4_ := Aside0.mk (KeepBut.blk hk (g' := gb226) (o := .cells #[.int .i64 ji3, u227001] 25 (0, 0)) (by (with_reducible repeat (first | refine blk_drewN ?_ _ | refine blk_drew ?_ | refine blk_alloc ?_ _)); exact BK226.out) NB226_0.out (by simp)); have n5_ := Aside0.mk (KeepBut.trans (by repeat (first | (with_reducible first | exact HK.out | apply KeepBut.set_ | apply keep_drewN | apply keep_drew | apply keep_alloc | refine keep_far ?_ GW223.out _ | refine keep_far ?_ GW226.out _) | exact HK.out)) hk (.inl rfl)); have n6_ := Aside0.mk (hb); have n7_ := Aside0.mk (hi); clear HO_4; clear HO_28; clear HO_227001; clear BK223; clear BK226; clear HK; clear HB; clear HI0; have HO_4 := n0_; have HO_28 := n1_; have HO_227001 := n2_; have BK223 := n3_; have BK226 := n4_; have HK := n5_; have HB := n6_; have HI0 := n7_; clear n0_ n1_ n2_ n3_ n4_ n5_ n6_ n7_; (try clear hb); (try clear hb2); (try clear hk); (try clear hi)) | ((with_reducible refine gate_dst (N := 8) rfl ?_); refine box_event ?hg (N := 8) ?hd (cs := #[.int .i64 0, .string (⟨#[]⟩ : ByteArray)]) (t := 27) ?hr ?_; (case hd => rfl); (case hg => rfl); (case hr => first | (go_simp; done) | (go_simp; rfl)); intro gb248 hg w36 hbox hb; have n0_ := Aside0.mk (Kd.V_below (Kd.V_elderB (by (with_reducible repeat (first | apply Kd.V_alloc | apply Kd.V_drewN | apply Kd.V_drew)); exact HO_4.out) gb248 (Nat.le_of_eq hg.symm)) hb); have n1_ := Aside0.mk (Kd.V_below (Kd.V_elderB (by (with_reducible repeat (first | apply Kd.V_alloc | apply Kd.V_drewN | apply Kd.V_drew)); exact HO_28.out) gb248 (Nat.le_of_eq hg.symm)) hb); have n2_ := Aside0.mk (Kd.R_below (Kd.R_elderB (by (with_reducible repeat (first | apply Kd.R_alloc | apply Kd.R_drewN | apply Kd.R_drew)); exact HO_227001.out) gb248 (Nat.le_of_eq hg.symm)) hb); have n3_ := Aside0.mk (blk_below (g := gb223) (o := .cells #[.int .i64 0, .slice none 0 0] 25 (0, 0)) (by (with_reducible repeat (first | refine blk_drewN ?_ _ | refine blk_drew ?_ | refine blk_alloc ?_ _)); exact BK223.out) hb); have n4_ := Aside0.mk (blk_below (g := gb226) (o := .cells #[.int .i64 ji3, u227001] 25 (0, 0)) (by (with_reducible repeat (first | refine blk_drewN ?_ _ | refine blk_drew ?_ | refine blk_alloc ?_ _)); exact BK226.out) hb); have n5_ := Aside0.mk (IsS74.below (by repeat (first | (with_reducible first | exact HI0.out | apply IsS74.alloc | apply IsS74.drewN | apply IsS74.drew | apply IsS74.set_1 | refine IsS74.far ?_ NB0_223.out _ | refine IsS74.far ?_ NB0_226.out _) | exact HI0.out)) hb); have n6_ := Aside0.mk (KeepBut.trans (by repeat (first | (with_reducible first | exact HK.out | apply KeepBut.set_ | apply keep_drewN | apply keep_drew | apply keep_alloc | refine keep_far ?_ GW223.out _ | refine keep_far ?_ GW226.out _) | exact HK.out)) (KeepBut.of_below hb g none) (.inl rfl)); have n7_ := Aside0.mk (below_step (by repeat (first | (with_reducible first | exact HB.out | apply below_alloc | apply pw_below_drewN | apply below_drew1 | refine below_set ?_ (IsS74.ge HI0.out) | refine below_set ?_ GE223.out | refine below_set ?_ GE226.out) | exact HB.out)) hb); have n8_ := Aside0.mk (hbox); have n9_ := Aside0.mk ((by rw [hg]; exact (keep_size (w := w) (g := g) (row := none) (by repeat (first | (with_reducible first | exact HK.out | apply KeepBut.set_ | apply keep_drewN | apply keep_drew | apply keep_alloc | refine keep_far ?_ GW223.out _ | refine keep_far ?_ GW226.out _) | exact HK.out))) : w.heap.size ≤ gb248)); have n10_ := Aside0.mk ((Nat.le_trans HW0.out (by rw [hg]; exact (keep_size (w := w) (g := g) (row := none) (by repeat (first | (with_reducible first | exact HK.out | apply KeepBut.set_ | apply keep_drewN | apply keep_drew | apply keep_alloc | refine keep_far ?_ GW223.out _ | refine keep_far ?_ GW226.out _) | exact HK.out))) : w.heap.size ≤ gb248) : w0.heap.size ≤ gb248)); have n11_ := Aside0.mk ((by rw [hg]; exact Nat.ne_of_lt (blk_lt (g := gb223) (o := .cells #[.int .i64 0, .slice none 0 0] 25 (0, 0)) (by (with_reducible repeat (first | refine blk_drewN ?_ _ | refine blk_drew ?_ | refine blk_alloc ?_ _)); exact BK223.out)) : gb223 ≠ gb248)); have n12_ := Aside0.mk ((by rw [hg]; exact Nat.ne_of_gt (blk_lt (g := gb223) (o := .cells #[.int .i64 0, .slice none 0 0] 25 (0, 0)) (by (with_reducible repeat (first | refine blk_drewN ?_ _ | refine blk_drew ?_ | refine blk_alloc ?_ _)); exact BK223.out)) : gb248 ≠ gb223)); have n13_ := Aside0.mk ((by rw [hg]; exact Nat.ne_of_lt (blk_lt (g := gb226) (o := .cells #[.int .i64 ji3, u227001] 25 (0, 0)) (by (with_reducible repeat (first | refine blk_drewN ?_ _ | refine blk_drew ?_ | refine blk_alloc ?_ _)); exact BK226.out)) : gb226 ≠ gb248)); have n14_ := Aside0.mk ((by rw [hg]; exact Nat.ne_of_gt (blk_lt (g := gb226) (o := .cells #[.int .i64 ji3, u227001] 25 (0, 0)) (by (with_reducible repeat (first | refine blk_drewN ?_ _ | refine blk_drew ?_ | refine blk_alloc ?_ _)); exact BK226.out)) : gb248 ≠ gb226)); have n15_ := Aside0.mk ((by rw [hg]; exact Nat.ne_of_lt (IsS74.lt (show IsS74 w0 _ g s0_0 t247 from by repeat (first | (with_reducible first | exact HI0.out | apply IsS74.alloc | apply IsS74.drewN | apply IsS74.drew | apply IsS74.set_1 | refine IsS74.far ?_ NB0_223.out _ | refine IsS74.far ?_ NB0_226.out _) | exact HI0.out))) : g ≠ gb248)); have n16_ := Aside0.mk ((by rw [hg]; exact Nat.ne_of_gt (IsS74.lt (show IsS74 w0 _ g s0_0 t247 from by repeat (first | (with_reducible first | exact HI0.out | apply IsS74.alloc | apply IsS74.drewN | apply IsS74.drew | apply IsS74.set_1 | refine IsS74.far ?_ NB0_223.out _ | refine IsS74.far ?_ NB0_226.out _) | exact HI0.out))) : gb248 ≠ g)); clear HO_4; clear HO_28; clear HO_227001; clear BK223; clear BK226; clear HI0; clear HK; clear HB; have HO_4 := n0_; have HO_28 := n1_; have HO_227001 := n2_; have BK223 := n3_; have BK226 := n4_; have HI0 := n5_; have HK := n6_; have HB := n7_; have BK248 := n8_; have GW248 := n9_; have GE248 := n10_; have NB223_248 := n11_; have NB248_223 := n12_; have NB226_248 := n13_; have NB248_226 := n14_; have NB0_248 := n15_; have NB248_0 := n16_; clear n0_ n1_ n2_ n3_ n4_ n5_ n6_ n7_ n8_ n9_ n10_ n11_ n12_ n13_ n14_ n15_ n16_; clear hb hbox hg; have hnb37 := NB248_223.out; have hnc37 := NB223_248.out; have hnb38 := NB248_226.out; have hnc38 := NB226_248.out; have hnb39 := NB248_0.out; have hnc39 := NB0_248.out; have hcz40_0 : w36.cell? ⟨gb248, 0, none⟩ = some (.int .i64 0) := (blk_cell BK248.out 0).trans rfl; have hcz40_1 : w36.cell? ⟨gb248, 1, none⟩ = some (.string (⟨#[]⟩ : ByteArray)) := (blk_cell BK248.out 1).trans rfl; have hfz40_0 := blk_frozen BK248.out 0; have hfz40_1 := blk_frozen BK248.out 1))
           go_loopg [] k2 (fun kq w' => ∃ (x249001_3 : ByteArray), Aside0 (keyeventkit_Group.l2 kq (rd_L1 y239 (ji3)) x5_1 (rd (rd_L1 y239 (ji3)) x30_2) (rd_L1 y239 (ji3)) ((rd_L1 y239 (ji3)).length : Int) x30_2 s0_0 t247 ji3 x227001_2 (rd (rd_L1 y239 (ji3)) x30_2) x249001_3 = some (r1, r2, r3)) ∧ Aside0 (kq ≤ k2) ∧ Aside0 (Kd.V (Kd.int .i64) 3 w' w.heap.size (fun k_ => some k_ ≠ (u227001 : Value).ownBlock ∧ k_ ≠ gb223 ∧ k_ ≠ gb226 ∧ k_ ≠ gb248 ∧ k_ ≠ g) (.slice (some ad245) (rd_L1 y239 (ji3)).length c242_0) (rd_L1 y239 (ji3))) ∧ Aside0 (Kd.V (Kd.int .i64) 3 w' w.heap.size (fun k_ => some k_ ≠ (u227001 : Value).ownBlock ∧ k_ ≠ gb223 ∧ k_ ≠ gb226 ∧ k_ ≠ gb248 ∧ k_ ≠ g) (.slice (some ad245) (rd_L1 y239 (ji3)).length c242_0) (rd_L1 y239 (ji3))) ∧ Aside0 (Kd.R k27 27 w' w.heap.size (fun k_ => k_ ≠ gb248) u227001 x227001_2) ∧ Aside0 (w'.heap[gb223]? = some (.cells #[.int .i64 0, (.slice none 0 0)] 25 (0, 0))) ∧ Aside0 (w'.heap[gb226]? = some (.cells #[.int .i64 ji3, u227001] 25 (0, 0))) ∧ Aside0 (w'.heap[gb248]? = some (.cells #[.int .i64 (rd (rd_L1 y239 (ji3)) x30_2), .string x249001_3] 27 (0, 0))) ∧ Aside0 (IsS74 w0 w' g s0_0 t247) ∧ Aside0 (KeepBut w w' g none) ∧ Aside0 (Below w0.heap.size w0 w'))
           case atStart => exact ⟨(t246), H', ⟨Nat.le_refl _⟩, ⟨by (with_reducible repeat (first | apply Kd.V_alloc | apply Kd.V_drewN | apply Kd.V_drew)); exact Kd.V_mono (Kd.V_far (p := ⟨gb248, 1, none⟩) (Kd.V_far (p := ⟨gb248, 0, none⟩) (Kd.V_mono HO_4.out (fun k_ hk => (⟨hk, hk.2⟩ : _ ∧ k_ ≠ gb248))) (fun _ hk => hk.2) (.int .i64 (rd (rd_L1 y239 (ji3)) x30_2))) (fun _ hk => hk.2) (.string t246)) (fun _ hk => ⟨hk.1.1.1, ⟨hk.1.1.2.1, ⟨hk.1.1.2.2.1, ⟨hk.1.2, hk.1.1.2.2.2⟩⟩⟩⟩)⟩, ⟨by (with_reducible repeat (first | apply Kd.V_alloc | apply Kd.V_drewN | apply Kd.V_drew)); exact Kd.V_mono (Kd.V_far (p := ⟨gb248, 1, none⟩) (Kd.V_far (p := ⟨gb248, 0, none⟩) (Kd.V_mono HO_28.out (fun k_ hk => (⟨hk, hk.2⟩ : _ ∧ k_ ≠ gb248))) (fun _ hk => hk.2) (.int .i64 (rd (rd_L1 y239 (ji3)) x30_2))) (fun _ hk => hk.2) (.string t246)) (fun _ hk => ⟨hk.1.1.1, ⟨hk.1.1.2.1, ⟨hk.1.1.2.2.1, ⟨hk.1.2, hk.1.1.2.2.2⟩⟩⟩⟩)⟩, ⟨by (with_reducible repeat (first | apply Kd.R_alloc | apply Kd.R_drewN | apply Kd.R_drew)); exact Kd.R_mono (Kd.R_far (p := ⟨gb248, 1, none⟩) (Kd.R_far (p := ⟨gb248, 0, none⟩) (Kd.R_mono HO_227001.out (fun k_ hk => (⟨hk, hk.2⟩ : _ ∧ k_ ≠ gb248))) (fun _ hk => hk.2) (.int .i64 (rd (rd_L1 y239 (ji3)) x30_2))) (fun _ hk => hk.2) (.string t246)) (fun _ hk => hk.1.2)⟩, ⟨by (with_reducible repeat (first | refine blk_drewN ?_ _ | refine blk_drew ?_ | refine blk_alloc ?_ _)); refine blk_far ?_ NB223_248.out _; (with_reducible repeat (first | refine blk_drewN ?_ _ | refine blk_drew ?_ | refine blk_alloc ?_ _)); refine blk_far ?_ NB223_248.out _; (with_reducible repeat (first | refine blk_drewN ?_ _ | refine blk_drew ?_ | refine blk_alloc ?_ _)); exact BK223.out⟩, ⟨by (with_reducible repeat (first | refine blk_drewN ?_ _ | refine blk_drew ?_ | refine blk_alloc ?_ _)); refine blk_far ?_ NB226_248.out _; (with_reducible repeat (first | refine blk_drewN ?_ _ | refine blk_drew ?_ | refine blk_alloc ?_ _)); refine blk_far ?_ NB226_248.out _; (with_reducible repeat (first | refine blk_drewN ?_ _ | refine blk_drew ?_ | refine blk_alloc ?_ _)); exact BK226.out⟩, ⟨by (with_reducible repeat (first | refine blk_drewN ?_ _ | refine blk_drew ?_ | refine blk_alloc ?_ _)); refine blk_put (cs := #[.int .i64 (rd (rd_L1 y239 (ji3)) x30_2), .string (⟨#[]⟩ : ByteArray)]) ?_ 1 _ rfl; (with_reducible repeat (first | refine blk_drewN ?_ _ | refine blk_drew ?_ | refine blk_alloc ?_ _)); refine blk_put (cs := #[.int .i64 0, .string (⟨#[]⟩ : ByteArray)]) ?_ 0 _ rfl; (with_reducible repeat (first | refine blk_drewN ?_ _ | refine blk_drew ?_ | refine blk_alloc ?_ _)); exact BK248.out⟩, ⟨by repeat (first | (with_reducible first | exact HI0.out | apply IsS74.alloc | apply IsS74.drewN | apply IsS74.drew | apply IsS74.set_1 | refine IsS74.far ?_ NB0_223.out _ | refine IsS74.far ?_ NB0_226.out _ | refine IsS74.far ?_ NB0_248.out _) | exact HI0.out)⟩, ⟨by repeat (first | (with_reducible first | exact HK.out | apply KeepBut.set_ | apply keep_drewN | apply keep_drew | apply keep_alloc | refine keep_far ?_ GW223.out _ | refine keep_far ?_ GW226.out _ | refine keep_far ?_ GW248.out _) | exact HK.out)⟩, ⟨by repeat (first | (with_reducible first | exact HB.out | apply below_alloc | apply pw_below_drewN | apply below_drew1 | refine below_set ?_ (IsS74.ge HI0.out) | refine below_set ?_ GE223.out | refine below_set ?_ GE226.out | refine below_set ?_ GE248.out) | exact HB.out)⟩⟩
           case round =>
            clear H'
            try clear c1
            try clear c2
            try clear p2
            try clear q2
            try clear hx2
            try clear c3
            try clear c4
            try clear c4b0
            try clear c5
            try clear c5b0
            try clear p6
            try clear c10
            try clear c11
            try clear c15
            try clear c24
            try clear p24
            try clear q24
            try clear hx24
            try clear c30
            try clear c30b0
            try clear c31
            try clear c31b0
            try clear c32
            try clear c32b0
            try clear c33
            try clear c33b0
            try clear c37
            try clear c38
            try clear c39
            try clear c40
            try clear hcz12_0
            try clear hcz12_1
            try clear hcz27_0
            try clear hcz27_1
            try clear hcz40_0
            try clear hcz40_1
            try clear hfz12_0
            try clear hfz12_1
            try clear hfz27_0
            try clear hfz27_1
            try clear hfz40_0
            try clear hfz40_1
            try clear hx242_0
            try clear hx245_0
            try clear p2
            try clear p24
            try clear p242
            try clear p245
            try clear p6
            try clear q2
            try clear q24
            try clear q242
            try clear q245
            obtain ⟨x249001_3, HA, HK3, HO_4, HO_28, HO_227001, BK223, BK226, BK248, HI0, HK, HB⟩ := hrel
            cases gk with
            | zero => exact absurd HA.out (by simp [keyeventkit_Group.l2])
            | succ k3 =>
             have H := HA.out
             clear HA
             simp only [keyeventkit_Group.l2] at H
             replace H := Option.bind_eq_some_iff.mp H
             obtain ⟨t249, A410, H⟩ := H
             replace H : (if (x249001_3.size : Int) < t249 then (if x249001_3.size + 1 ≤ 9223372036854775807 then (keyeventkit_Group.l2 k3 (rd_L1 y239 (ji3)) x5_1 (rd (rd_L1 y239 (ji3)) x30_2) (rd_L1 y239 (ji3)) ((rd_L1 y239 (ji3)).length : Int) x30_2 s0_0 t247 ji3 x227001_2 (rd (rd_L1 y239 (ji3)) x30_2) (x249001_3 ++ (⟨#[1]⟩ : ByteArray))) else (none)) else (if x227001_2.length < 5864062014805 then (keyeventkit_Group.l1 k3 (rd_L1 y239 (ji3)) x5_1 (rd_L1 y239 (ji3)) ((rd_L1 y239 (ji3)).length : Int) (wrap64 (x30_2 + 1)) s0_0 t247 ji3 (x227001_2 ++ [(⟨(rd (rd_L1 y239 (ji3)) x30_2), x249001_3⟩ : S27)])) else (none))) = some (r1, r2, r3) := H
             have A41 := Aside0.mk A410
             clear A410
             by_cases c42 : (x249001_3.size : Int) < t249
             ·rw [if_pos c42] at H
              have c42b0 : decide ((x249001_3.size : Int) < t249) = true := decide_eq_true c42
              clear c42
              by_cases c43 : x249001_3.size + 1 ≤ 9223372036854775807
              ·rw [if_pos c43] at H
               have c43b0 := eq_true c43
               have c43b1 : decide (x249001_3.size + 1 ≤ 9223372036854775807) = true := decide_eq_true c43
               try have c43b2 : (9223372036854775807 < x249001_3.size + 1) = False := eq_false (Nat.not_lt.2 c43)
               have H' := Aside0.mk H
               clear H
               try go_wp2
               have n0_ := Aside0.mk (Kd.V_drew HO_4.out)
               have n1_ := Aside0.mk (Kd.V_drew HO_28.out)
               have n2_ := Aside0.mk (Kd.R_drew HO_227001.out)
               have n3_ := Aside0.mk (blk_drew BK223.out)
               have n4_ := Aside0.mk (blk_drew BK226.out)
               have n5_ := Aside0.mk (blk_drew BK248.out)
               have n6_ := Aside0.mk (IsS74.drew HI0.out)
               have n7_ := Aside0.mk (keep_drew HK.out)
               have n8_ := Aside0.mk (below_drew1 HB.out)
               clear HO_4
               clear HO_28
               clear HO_227001
               clear BK223
               clear BK226
               clear BK248
               clear HI0
               clear HK
               clear HB
               have HO_4 := n0_
               have HO_28 := n1_
               have HO_227001 := n2_
               have BK223 := n3_
               have BK226 := n4_
               have BK248 := n5_
               have HI0 := n6_
               have HK := n7_
               have HB := n8_
               clear n0_ n1_ n2_ n3_ n4_ n5_ n6_ n7_ n8_
               refine start_ (n := 6) (S := fun w' => w'.cell? ⟨gb248, 0, none⟩ = some (.int .i64 (rd (rd_L1 y239 (ji3)) x30_2)) ∧ w'.cell? ⟨gb248, 1, none⟩ = some (.string x249001_3)) (ds := []) #[false, false, false, false, false, false] (by kernel_rfl) rfl rfl ⟨(blk_cell BK248.out 0).trans rfl, (blk_cell BK248.out 1).trans rfl⟩ (fun hHeld => ?_)
               generalize wr.drew = w44 at HO_4 HO_28 HO_227001 BK223 BK226 BK248 HI0 HK HB hHeld ⊢
               refine pure_ (i := 0) (N := some 38) (v := ?_) (a' := ?_) #[true, false, false, false, false, false] rfl rfl (by kernel_rfl) (fun _ _ _ h => h) (Or.inl ⟨by rfl, ?_⟩) ?_ ?_
               rotate_left
               ·intro w'
                go_simp
                with_reducible rfl
               rotate_left
               ·simp only [Act.put, List.setIfInBounds_toArray, List.set_cons_zero, List.set_cons_succ, i64_w, i32_w]
                rfl
               refine pure_ (i := 3) (N := some 41) (v := ?_) (a' := ?_) #[true, false, false, true, false, false] rfl rfl (by kernel_rfl) (fun _ _ _ h => h) (Or.inl ⟨by rfl, ?_⟩) ?_ ?_
               rotate_left
               ·intro w'
                go_simp
                with_reducible rfl
               rotate_left
               ·simp only [Act.put, List.setIfInBounds_toArray, List.set_cons_zero, List.set_cons_succ, i64_w, i32_w]
                rfl
               refine take_ (i := 1) (N := some 39) (v := ?_) (a' := ?_) #[true, true, false, true, false, false] rfl rfl (by kernel_rfl) (fun _ _ _ h => h) (Or.inl ⟨by rfl, ?_⟩) hHeld ?_ ?_
               rotate_left
               ·rintro w' ⟨s0, s1⟩
                go_simp
                with_reducible rfl
               rotate_left
               ·simp only [Act.put, List.setIfInBounds_toArray, List.set_cons_zero, List.set_cons_succ, i64_w, i32_w]
                rfl
               refine pure_ (i := 2) (N := some 40) (v := ?_) (a' := ?_) #[true, true, true, true, false, false] rfl rfl (by kernel_rfl) (fun _ _ _ h => h) (Or.inl ⟨by rfl, ?_⟩) ?_ ?_
               rotate_left
               ·intro w'
                go_simp
                with_reducible rfl
               rotate_left
               ·simp only [Act.put, List.setIfInBounds_toArray, List.set_cons_zero, List.set_cons_succ, i64_w, i32_w]
                rfl
               refine one_ (i := 4) (N := some 42) #[true, true, true, true, true, false] rfl rfl (by kernel_rfl) (by decide) (fun K hK => ?_)
               refine goes_ Try.func41 (by kernel_rfl) rfl #[.int .i64 (rd (rd_L1 y239 (ji3)) x30_2)] (by rfl) rfl rfl (by (try simp only [List.map_toArray, List.map_cons, List.map_nil]); first | done | (simp only [hji3]; rfl) | rfl | (simp only [List.length_drop, List.length_take]; rfl)) ?_
               with_reducible refine (keyeventref03_Raw.calls (rd (rd_L1 y239 (ji3)) x30_2) t249 _ A41.out).mono ?_
               rintro e w45 ⟨rfl, hb⟩
               refine ⟨_, rfl, ?_⟩
               have n0_ := Aside0.mk (Kd.V_below (by (with_reducible repeat (first | apply Kd.V_alloc | apply Kd.V_drewN | apply Kd.V_drew)); exact HO_4.out) hb)
               have n1_ := Aside0.mk (Kd.V_below (by (with_reducible repeat (first | apply Kd.V_alloc | apply Kd.V_drewN | apply Kd.V_drew)); exact HO_28.out) hb)
               have n2_ := Aside0.mk (Kd.R_below (by (with_reducible repeat (first | apply Kd.R_alloc | apply Kd.R_drewN | apply Kd.R_drew)); exact HO_227001.out) hb)
               have n3_ := Aside0.mk (blk_below (g := gb223) (o := .cells #[.int .i64 0, .slice none 0 0] 25 (0, 0)) (by (with_reducible repeat (first | refine blk_drewN ?_ _ | refine blk_drew ?_ | refine blk_alloc ?_ _)); exact BK223.out) hb)
               have n4_ := Aside0.mk (blk_below (g := gb226) (o := .cells #[.int .i64 ji3, u227001] 25 (0, 0)) (by (with_reducible repeat (first | refine blk_drewN ?_ _ | refine blk_drew ?_ | refine blk_alloc ?_ _)); exact BK226.out) hb)
               have n5_ := Aside0.mk (blk_below (g := gb248) (o := .cells #[.int .i64 (rd (rd_L1 y239 (ji3)) x30_2), .string x249001_3] 27 (0, 0)) (by (with_reducible repeat (first | refine blk_drewN ?_ _ | refine blk_drew ?_ | refine blk_alloc ?_ _)); exact BK248.out) hb)
               have n6_ := Aside0.mk (IsS74.below (by repeat (first | (with_reducible first | exact HI0.out | apply IsS74.alloc | apply IsS74.drewN | apply IsS74.drew | apply IsS74.set_1 | refine IsS74.far ?_ NB0_223.out _ | refine IsS74.far ?_ NB0_226.out _ | refine IsS74.far ?_ NB0_248.out _) | exact HI0.out)) hb)
               have n7_ := Aside0.mk (KeepBut.trans (by repeat (first | (with_reducible first | exact HK.out | apply KeepBut.set_ | apply keep_drewN | apply keep_drew | apply keep_alloc | refine keep_far ?_ GW223.out _ | refine keep_far ?_ GW226.out _ | refine keep_far ?_ GW248.out _) | exact HK.out)) (KeepBut.of_below hb g none) (.inl rfl))
               have n8_ := Aside0.mk (below_step (by repeat (first | (with_reducible first | exact HB.out | apply below_alloc | apply pw_below_drewN | apply below_drew1 | refine below_set ?_ (IsS74.ge HI0.out) | refine below_set ?_ GE223.out | refine below_set ?_ GE226.out | refine below_set ?_ GE248.out) | exact HB.out)) hb)
               clear HO_4
               clear HO_28
               clear HO_227001
               clear BK223
               clear BK226
               clear BK248
               clear HI0
               clear HK
               clear HB
               have HO_4 := n0_
               have HO_28 := n1_
               have HO_227001 := n2_
               have BK223 := n3_
               have BK226 := n4_
               have BK248 := n5_
               have HI0 := n6_
               have HK := n7_
               have HB := n8_
               clear n0_ n1_ n2_ n3_ n4_ n5_ n6_ n7_ n8_
               (try clear hb)
               (try clear hb2)
               (try clear hk)
               (try clear hi)
               refine hK.out _ _ ⟨(blk_cell BK248.out 0).trans rfl, (blk_cell BK248.out 1).trans rfl⟩ (fun hHeld => ?_)
               clear hK K
               refine norm_ (a' := ?_) ?_ ?_
               rotate_left
               ·show Act.put _ (some 42) _ = _
                simp only [Act.put, List.setIfInBounds_toArray, List.set_cons_zero, List.set_cons_succ, i64_w, i32_w]
                rfl
               refine pure_ (i := 5) (N := some 43) (v := ?_) (a' := ?_) #[true, true, true, true, true, true] rfl rfl (by kernel_rfl) (fun _ _ _ h => h) (Or.inl ⟨by rfl, ?_⟩) ?_ ?_
               rotate_left
               ·intro w'
                go_simp
                with_reducible rfl
               rotate_left
               ·simp only [Act.put, List.setIfInBounds_toArray, List.set_cons_zero, List.set_cons_succ, i64_w, i32_w]
                rfl
               refine done_ (by kernel_rfl) ?_
               have hnb46 := NB248_223.out
               have hnc46 := NB223_248.out
               have hnb47 := NB248_226.out
               have hnc47 := NB226_248.out
               have hnb48 := NB248_0.out
               have hnc48 := NB0_248.out
               have hcz49_0 : w45.cell? ⟨gb248, 0, none⟩ = some (.int .i64 (rd (rd_L1 y239 (ji3)) x30_2)) := (blk_cell BK248.out 0).trans rfl
               have hcz49_1 : w45.cell? ⟨gb248, 1, none⟩ = some (.string x249001_3) := (blk_cell BK248.out 1).trans rfl
               have hfz49_0 := blk_frozen BK248.out 0
               have hfz49_1 := blk_frozen BK248.out 1
               try go_wp2
               go_roundg k3
               case measure => have := HK1.out; have := HK2.out; have := HK3.out; omega
               case rel => exact ⟨(x249001_3 ++ (⟨#[1]⟩ : ByteArray)), H', ⟨by have := HK1.out; have := HK2.out; have := HK3.out; omega⟩, ⟨by (with_reducible repeat (first | apply Kd.V_alloc | apply Kd.V_drewN | apply Kd.V_drew)); exact Kd.V_mono (Kd.V_far (p := ⟨gb248, 1, none⟩) (Kd.V_mono HO_4.out (fun k_ hk => (⟨hk, hk.2.2.2.1⟩ : _ ∧ k_ ≠ gb248))) (fun _ hk => hk.2) (.string (x249001_3 ++ (⟨#[1]⟩ : ByteArray)))) (fun _ hk => ⟨hk.1.1, ⟨hk.1.2.1, ⟨hk.1.2.2.1, ⟨hk.1.2.2.2.1, hk.1.2.2.2.2⟩⟩⟩⟩)⟩, ⟨by (with_reducible repeat (first | apply Kd.V_alloc | apply Kd.V_drewN | apply Kd.V_drew)); exact Kd.V_mono (Kd.V_far (p := ⟨gb248, 1, none⟩) (Kd.V_mono HO_28.out (fun k_ hk => (⟨hk, hk.2.2.2.1⟩ : _ ∧ k_ ≠ gb248))) (fun _ hk => hk.2) (.string (x249001_3 ++ (⟨#[1]⟩ : ByteArray)))) (fun _ hk => ⟨hk.1.1, ⟨hk.1.2.1, ⟨hk.1.2.2.1, ⟨hk.1.2.2.2.1, hk.1.2.2.2.2⟩⟩⟩⟩)⟩, ⟨by (with_reducible repeat (first | apply Kd.R_alloc | apply Kd.R_drewN | apply Kd.R_drew)); exact Kd.R_mono (Kd.R_far (p := ⟨gb248, 1, none⟩) (Kd.R_mono HO_227001.out (fun k_ hk => (⟨hk, hk⟩ : _ ∧ k_ ≠ gb248))) (fun _ hk => hk.2) (.string (x249001_3 ++ (⟨#[1]⟩ : ByteArray)))) (fun _ hk => hk.1)⟩, ⟨by (with_reducible repeat (first | refine blk_drewN ?_ _ | refine blk_drew ?_ | refine blk_alloc ?_ _)); refine blk_far ?_ NB223_248.out _; (with_reducible repeat (first | refine blk_drewN ?_ _ | refine blk_drew ?_ | refine blk_alloc ?_ _)); exact BK223.out⟩, ⟨by (with_reducible repeat (first | refine blk_drewN ?_ _ | refine blk_drew ?_ | refine blk_alloc ?_ _)); refine blk_far ?_ NB226_248.out _; (with_reducible repeat (first | refine blk_drewN ?_ _ | refine blk_drew ?_ | refine blk_alloc ?_ _)); exact BK226.out⟩, ⟨by (with_reducible repeat (first | refine blk_drewN ?_ _ | refine blk_drew ?_ | refine blk_alloc ?_ _)); refine blk_put (cs := #[.int .i64 (rd (rd_L1 y239 (ji3)) x30_2), .string x249001_3]) ?_ 1 _ rfl; (with_reducible repeat (first | refine blk_drewN ?_ _ | refine blk_drew ?_ | refine blk_alloc ?_ _)); exact BK248.out⟩, ⟨by repeat (first | (with_reducible first | exact HI0.out | apply IsS74.alloc | apply IsS74.drewN | apply IsS74.drew | apply IsS74.set_1 | refine IsS74.far ?_ NB0_223.out _ | refine IsS74.far ?_ NB0_226.out _ | refine IsS74.far ?_ NB0_248.out _) | exact HI0.out)⟩, ⟨by repeat (first | (with_reducible first | exact HK.out | apply KeepBut.set_ | apply keep_drewN | apply keep_drew | apply keep_alloc | refine keep_far ?_ GW223.out _ | refine keep_far ?_ GW226.out _ | refine keep_far ?_ GW248.out _) | exact HK.out)⟩, ⟨by repeat (first | (with_reducible first | exact HB.out | apply below_alloc | apply pw_below_drewN | apply below_drew1 | refine below_set ?_ (IsS74.ge HI0.out) | refine below_set ?_ GE223.out | refine below_set ?_ GE226.out | refine below_set ?_ GE248.out) | exact HB.out)⟩⟩
              ·rw [if_neg c43] at H
               exact absurd H (by simp)
             ·rw [if_neg c42] at H
              have c42b0 : decide ((x249001_3.size : Int) < t249) = false := decide_eq_false c42
              clear c42
              by_cases c50 : x227001_2.length < 5864062014805
              ·rw [if_pos c50] at H
               have LMc50 := Aside0.mk c50
               clear c50
               obtain ⟨y250, hy250⟩ : ∃ y_ : List (S27), y_ = (x227001_2 ++ [(⟨(rd (rd_L1 y239 (ji3)) x30_2), x249001_3⟩ : S27)]) := ⟨_, rfl⟩
               replace H : (keyeventkit_Group.l1 k3 (rd_L1 y239 (ji3)) x5_1 (rd_L1 y239 (ji3)) ((rd_L1 y239 (ji3)).length : Int) (wrap64 (x30_2 + 1)) s0_0 t247 ji3 y250) = some (r1, r2, r3) := by first | (rw [hy250]; with_reducible exact H) | (have H2_ := (Option.bind_some _ _).symm.trans H; rw [hy250]; with_reducible exact H2_) | (have H2_ := (Option.bind_some _ _).symm.trans H; with_reducible exact H2_) | with_reducible exact H | (rw [hy250]; exact H) | exact H
               have Ny250 := Aside0.mk hy250
               clear hy250
               have H' := Aside0.mk H
               clear H
               try go_wp2
               have n0_ := Aside0.mk (Kd.V_drew HO_4.out)
               have n1_ := Aside0.mk (Kd.V_drew HO_28.out)
               have n2_ := Aside0.mk (Kd.R_drew HO_227001.out)
               have n3_ := Aside0.mk (blk_drew BK223.out)
               have n4_ := Aside0.mk (blk_drew BK226.out)
               have n5_ := Aside0.mk (blk_drew BK248.out)
               have n6_ := Aside0.mk (IsS74.drew HI0.out)
               have n7_ := Aside0.mk (keep_drew HK.out)
               have n8_ := Aside0.mk (below_drew1 HB.out)
               clear HO_4
               clear HO_28
               clear HO_227001
               clear BK223
               clear BK226
               clear BK248
               clear HI0
               clear HK
               clear HB
               have HO_4 := n0_
               have HO_28 := n1_
               have HO_227001 := n2_
               have BK223 := n3_
               have BK226 := n4_
               have BK248 := n5_
               have HI0 := n6_
               have HK := n7_
               have HB := n8_
               clear n0_ n1_ n2_ n3_ n4_ n5_ n6_ n7_ n8_
               refine start_ (n := 6) (S := fun w' => w'.cell? ⟨gb248, 0, none⟩ = some (.int .i64 (rd (rd_L1 y239 (ji3)) x30_2)) ∧ w'.cell? ⟨gb248, 1, none⟩ = some (.string x249001_3)) (ds := []) #[false, false, false, false, false, false] (by kernel_rfl) rfl rfl ⟨(blk_cell BK248.out 0).trans rfl, (blk_cell BK248.out 1).trans rfl⟩ (fun hHeld => ?_)
               generalize wr.drew = w51 at HO_4 HO_28 HO_227001 BK223 BK226 BK248 HI0 HK HB hHeld ⊢
               refine pure_ (i := 0) (N := some 38) (v := ?_) (a' := ?_) #[true, false, false, false, false, false] rfl rfl (by kernel_rfl) (fun _ _ _ h => h) (Or.inl ⟨by rfl, ?_⟩) ?_ ?_
               rotate_left
               ·intro w'
                go_simp
                with_reducible rfl
               rotate_left
               ·simp only [Act.put, List.setIfInBounds_toArray, List.set_cons_zero, List.set_cons_succ, i64_w, i32_w]
                rfl
               refine pure_ (i := 3) (N := some 41) (v := ?_) (a' := ?_) #[true, false, false, true, false, false] rfl rfl (by kernel_rfl) (fun _ _ _ h => h) (Or.inl ⟨by rfl, ?_⟩) ?_ ?_
               rotate_left
               ·intro w'
                go_simp
                with_reducible rfl
               rotate_left
               ·simp only [Act.put, List.setIfInBounds_toArray, List.set_cons_zero, List.set_cons_succ, i64_w, i32_w]
                rfl
               refine take_ (i := 1) (N := some 39) (v := ?_) (a' := ?_) #[true, true, false, true, false, false] rfl rfl (by kernel_rfl) (fun _ _ _ h => h) (Or.inl ⟨by rfl, ?_⟩) hHeld ?_ ?_
               rotate_left
               ·rintro w' ⟨s0, s1⟩
                go_simp
                with_reducible rfl
               rotate_left
               ·simp only [Act.put, List.setIfInBounds_toArray, List.set_cons_zero, List.set_cons_succ, i64_w, i32_w]
                rfl
               refine pure_ (i := 2) (N := some 40) (v := ?_) (a' := ?_) #[true, true, true, true, false, false] rfl rfl (by kernel_rfl) (fun _ _ _ h => h) (Or.inl ⟨by rfl, ?_⟩) ?_ ?_
               rotate_left
               ·intro w'
                go_simp
                with_reducible rfl
               rotate_left
               ·simp only [Act.put, List.setIfInBounds_toArray, List.set_cons_zero, List.set_cons_succ, i64_w, i32_w]
                rfl
               refine one_ (i := 4) (N := some 42) #[true, true, true, true, true, false] rfl rfl (by kernel_rfl) (by decide) (fun K hK => ?_)
               refine goes_ Try.func41 (by kernel_rfl) rfl #[.int .i64 (rd (rd_L1 y239 (ji3)) x30_2)] (by rfl) rfl rfl (by (try simp only [List.map_toArray, List.map_cons, List.map_nil]); first | done | (simp only [hji3]; rfl) | rfl | (simp only [List.length_drop, List.length_take]; rfl)) ?_
               with_reducible refine (keyeventref03_Raw.calls (rd (rd_L1 y239 (ji3)) x30_2) t249 _ A41.out).mono ?_
               rintro e w52 ⟨rfl, hb⟩
               refine ⟨_, rfl, ?_⟩
               have n0_ := Aside0.mk (Kd.V_below (by (with_reducible repeat (first | apply Kd.V_alloc | apply Kd.V_drewN | apply Kd.V_drew)); exact HO_4.out) hb)
               have n1_ := Aside0.mk (Kd.V_below (by (with_reducible repeat (first | apply Kd.V_alloc | apply Kd.V_drewN | apply Kd.V_drew)); exact HO_28.out) hb)
               have n2_ := Aside0.mk (Kd.R_below (by (with_reducible repeat (first | apply Kd.R_alloc | apply Kd.R_drewN | apply Kd.R_drew)); exact HO_227001.out) hb)
               have n3_ := Aside0.mk (blk_below (g := gb223) (o := .cells #[.int .i64 0, .slice none 0 0] 25 (0, 0)) (by (with_reducible repeat (first | refine blk_drewN ?_ _ | refine blk_drew ?_ | refine blk_alloc ?_ _)); exact BK223.out) hb)
               have n4_ := Aside0.mk (blk_below (g := gb226) (o := .cells #[.int .i64 ji3, u227001] 25 (0, 0)) (by (with_reducible repeat (first | refine blk_drewN ?_ _ | refine blk_drew ?_ | refine blk_alloc ?_ _)); exact BK226.out) hb)
               have n5_ := Aside0.mk (blk_below (g := gb248) (o := .cells #[.int .i64 (rd (rd_L1 y239 (ji3)) x30_2), .string x249001_3] 27 (0, 0)) (by (with_reducible repeat (first | refine blk_drewN ?_ _ | refine blk_drew ?_ | refine blk_alloc ?_ _)); exact BK248.out) hb)
               have n6_ := Aside0.mk (IsS74.below (by repeat (first | (with_reducible first | exact HI0.out | apply IsS74.alloc | apply IsS74.drewN | apply IsS74.drew | apply IsS74.set_1 | refine IsS74.far ?_ NB0_223.out _ | refine IsS74.far ?_ NB0_226.out _ | refine IsS74.far ?_ NB0_248.out _) | exact HI0.out)) hb)
               have n7_ := Aside0.mk (KeepBut.trans (by repeat (first | (with_reducible first | exact HK.out | apply KeepBut.set_ | apply keep_drewN | apply keep_drew | apply keep_alloc | refine keep_far ?_ GW223.out _ | refine keep_far ?_ GW226.out _ | refine keep_far ?_ GW248.out _) | exact HK.out)) (KeepBut.of_below hb g none) (.inl rfl))
               have n8_ := Aside0.mk (below_step (by repeat (first | (with_reducible first | exact HB.out | apply below_alloc | apply pw_below_drewN | apply below_drew1 | refine below_set ?_ (IsS74.ge HI0.out) | refine below_set ?_ GE223.out | refine below_set ?_ GE226.out | refine below_set ?_ GE248.out) | exact HB.out)) hb)
               clear HO_4
               clear HO_28
               clear HO_227001
               clear BK223
               clear BK226
               clear BK248
               clear HI0
               clear HK
               clear HB
               have HO_4 := n0_
               have HO_28 := n1_
               have HO_227001 := n2_
               have BK223 := n3_
               have BK226 := n4_
               have BK248 := n5_
               have HI0 := n6_
               have HK := n7_
               have HB := n8_
               clear n0_ n1_ n2_ n3_ n4_ n5_ n6_ n7_ n8_
               (try clear hb)
               (try clear hb2)
               (try clear hk)
               (try clear hi)
               refine hK.out _ _ ⟨(blk_cell BK248.out 0).trans rfl, (blk_cell BK248.out 1).trans rfl⟩ (fun hHeld => ?_)
               clear hK K
               refine norm_ (a' := ?_) ?_ ?_
               rotate_left
               ·show Act.put _ (some 42) _ = _
                simp only [Act.put, List.setIfInBounds_toArray, List.set_cons_zero, List.set_cons_succ, i64_w, i32_w]
                rfl
               refine pure_ (i := 5) (N := some 43) (v := ?_) (a' := ?_) #[true, true, true, true, true, true] rfl rfl (by kernel_rfl) (fun _ _ _ h => h) (Or.inl ⟨by rfl, ?_⟩) ?_ ?_
               rotate_left
               ·intro w'
                go_simp
                with_reducible rfl
               rotate_left
               ·simp only [Act.put, List.setIfInBounds_toArray, List.set_cons_zero, List.set_cons_succ, i64_w, i32_w]
                rfl
               refine done_ (by kernel_rfl) ?_
               have hnb53 := NB226_223.out
               have hnc53 := NB223_226.out
               have hnb54 := NB226_248.out
               have hnc54 := NB248_226.out
               have hnb55 := NB226_0.out
               have hnc55 := NB0_226.out
               have hcz56_0 : w52.cell? ⟨gb226, 0, none⟩ = some (.int .i64 ji3) := (blk_cell BK226.out 0).trans rfl
               have hcz56_1 : w52.cell? ⟨gb226, 1, none⟩ = some (u227001) := (blk_cell BK226.out 1).trans rfl
               have hfz56_0 := blk_frozen BK226.out 0
               have hfz56_1 := blk_frozen BK226.out 1
               have hnb57 := NB248_223.out
               have hnc57 := NB223_248.out
               have hnb58 := NB248_0.out
               have hnc58 := NB0_248.out
               have hcz59_0 : w52.cell? ⟨gb248, 0, none⟩ = some (.int .i64 (rd (rd_L1 y239 (ji3)) x30_2)) := (blk_cell BK248.out 0).trans rfl
               have hcz59_1 : w52.cell? ⟨gb248, 1, none⟩ = some (.string x249001_3) := (blk_cell BK248.out 1).trans rfl
               have hfz59_0 := blk_frozen BK248.out 0
               have hfz59_1 := blk_frozen BK248.out 1
               try go_wp2_with (first | ((with_reducible refine gate_builtin (b := .append) (xs := #[.tmp 49, .tmp 51]) rfl ?_); at_builtin; refine Kd.R_append k27 w.heap.size rfl (.tmp 49) (.tmp 51) 23 27 (.agg #[(.int .i64 0), (.string ⟨#[]⟩)]) 24 rfl Try.underlying23 info27 rfl (by decide) (by omega) u227001 x227001_2 (⟨(rd (rd_L1 y239 (ji3)) x30_2), x249001_3⟩ : S27) [.int .i64 (rd (rd_L1 y239 (ji3)) x30_2), .string x249001_3] (fun k_ => k_ ≠ gb248) (fun _ => False) rfl rfl ?aP (fun _ hk => hk.elim) ?aF ?aO (Below.refl _ _) ?aS ?aL ?_; (case aP => exact k27_mkM _ _ _ (⟨(rd (rd_L1 y239 (ji3)) x30_2), x249001_3⟩ : S27)); (case aF => exact (fun k_ hk => Kd.freshB (g := gb248) (o := .cells #[.int .i64 (rd (rd_L1 y239 (ji3)) x30_2), .string x249001_3] 27 (0, 0)) (by (with_reducible repeat (first | refine blk_drewN ?_ _ | refine blk_drew ?_ | refine blk_alloc ?_ _)); exact BK248.out) k_ hk)); (case aO => exact (by (with_reducible repeat (first | apply Kd.R_alloc | apply Kd.R_drewN | apply Kd.R_drew)); exact HO_227001.out)); (case aS => exact (keep_size (w := w) (g := g) (row := none) (by repeat (first | (with_reducible first | exact HK.out | apply KeepBut.set_ | apply keep_drewN | apply keep_drew | apply keep_alloc | refine keep_far ?_ GW223.out _ | refine keep_far ?_ GW226.out _ | refine keep_far ?_ GW248.out _) | exact HK.out)))); (case aL => have := LMc50.out; omega); intro v251 w60 ho hb hg hat; rw [← Ny250.out] at ho; have n0_ := Aside0.mk (Kd.V_afterv (ok := (fun k_ => k_ ≠ gb223 ∧ k_ ≠ gb226 ∧ k_ ≠ gb248 ∧ k_ ≠ g)) (by (with_reducible repeat (first | apply Kd.V_alloc | apply Kd.V_drewN | apply Kd.V_drew)); exact Kd.V_mono HO_4.out (fun _ hk => ⟨⟨hk.2.1, ⟨hk.2.2.1, ⟨hk.2.2.2.1, hk.2.2.2.2⟩⟩⟩, hk.1⟩)) hg hat); have n1_ := Aside0.mk (Kd.V_afterv (ok := (fun k_ => k_ ≠ gb223 ∧ k_ ≠ gb226 ∧ k_ ≠ gb248 ∧ k_ ≠ g)) (by (with_reducible repeat (first | apply Kd.V_alloc | apply Kd.V_drewN | apply Kd.V_drew)); exact Kd.V_mono HO_28.out (fun _ hk => ⟨⟨hk.2.1, ⟨hk.2.2.1, ⟨hk.2.2.2.1, hk.2.2.2.2⟩⟩⟩, hk.1⟩)) hg hat); have n2_ := Aside0.mk (blk_grown (g := gb223) (o := .cells #[.int .i64 0, .slice none 0 0] 25 (0, 0)) (by (with_reducible repeat (first | refine blk_drewN ?_ _ | refine blk_drew ?_ | refine blk_alloc ?_ _)); exact BK223.out) hg (Kd.R_ne HO_227001.out BK223.out (by decide))); have n3_ := Aside0.mk (blk_grown (g := gb226) (o := .cells #[.int .i64 ji3, u227001] 25 (0, 0)) (by (with_reducible repeat (first | refine blk_drewN ?_ _ | refine blk_drew ?_ | refine blk_alloc ?_ _)); exact BK226.out) hg (Kd.R_ne HO_227001.out BK226.out (by decide))); have n4_ := Aside0.mk (blk_grown (g := gb248) (o := .cells #[.int .i64 (rd (rd_L1 y239 (ji3)) x30_2), .string x249001_3] 27 (0, 0)) (by (with_reducible repeat (first | refine blk_drewN ?_ _ | refine blk_drew ?_ | refine blk_alloc ?_ _)); exact BK248.out) hg (Kd.R_away HO_227001.out (fun _ hk => hk))); have n5_ := Aside0.mk (IsS74.grown (by repeat (first | (with_reducible first | exact HI0.out | apply IsS74.alloc | apply IsS74.drewN | apply IsS74.drew | apply IsS74.set_1 | refine IsS74.far ?_ NB0_223.out _ | refine IsS74.far ?_ NB0_226.out _ | refine IsS74.far ?_ NB0_248.out _) | exact HI0.out)) hg (IsS74.own_ne HI0.out HO_227001.out (by decide))); have n6_ := Aside0.mk (below_weaken (by repeat (first | (with_reducible first | exact HB.out | apply below_alloc | apply pw_below_drewN | apply below_drew1 | refine below_set ?_ (IsS74.ge HI0.out) | refine below_set ?_ GE223.out | refine below_set ?_ GE226.out | refine below_set ?_ GE248.out) | exact HB.out)) HL.out hb); have n7_ := Aside0.mk (KeepBut.trans (by repeat (first | (with_reducible first | exact HK.out | apply KeepBut.set_ | apply keep_drewN | apply keep_drew | apply keep_alloc | refine keep_far ?_ GW223.out _ | refine keep_far ?_ GW226.out _ | refine keep_far ?_ GW248.out _) | exact HK.out)) (KeepBut.of_grown hg g) (Kd.R_base2 HO_227001.out)); have n8_ := Aside0.mk (ho); clear HO_4; clear HO_28; clear BK223; clear BK226; clear BK248; clear HI0; clear HB; clear HK; clear HO_227001; have HO_4 := n0_; have HO_28 := n1_; have BK223 := n2_; have BK226 := n3_; have BK248 := n4_; have HI0 := n5_; have HB := n6_; have HK := n7_; have HO252 := n8_; clear n0_ n1_ n2_ n3_ n4_ n5_ n6_ n7_ n8_; clear ho hb hg hat; obtain ⟨Ao61, co61, eo61⟩ := Kd.R_slice HO252.out; subst eo61; have hcz62_0 : w60.cell? ⟨gb226, 0, none⟩ = some (.int .i64 ji3) := (blk_cell BK226.out 0).trans rfl; have hcz62_1 : w60.cell? ⟨gb226, 1, none⟩ = some (u227001) := (blk_cell BK226.out 1).trans rfl; have hfz62_0 := blk_frozen BK226.out 0; have hfz62_1 := blk_frozen BK226.out 1))
               go_roundg k3
               case measure => have := HK1.out; have := HK2.out; have := HK3.out; omega
               case rel => exact ⟨(wrap64 (x30_2 + 1)), (t247), (y250), (.slice Ao61 y250.length co61), (by first | rfl | (simp; done) | (simp [*]; done)), H', ⟨by have := HK1.out; have := HK2.out; have := HK3.out; omega⟩, ⟨by (with_reducible repeat (first | apply Kd.V_alloc | apply Kd.V_drewN | apply Kd.V_drew)); exact Kd.V_mono (Kd.V_far (p := ⟨gb226, 1, none⟩) (Kd.V_mono HO_4.out (fun k_ hk => (⟨hk, hk.1.2.1⟩ : _ ∧ k_ ≠ gb226))) (fun _ hk => hk.2) (.slice Ao61 y250.length co61)) (fun _ hk => ⟨hk.1.2, ⟨hk.1.1.1, ⟨hk.1.1.2.1, hk.1.1.2.2.2⟩⟩⟩)⟩, ⟨by (with_reducible repeat (first | apply Kd.V_alloc | apply Kd.V_drewN | apply Kd.V_drew)); exact Kd.V_mono (Kd.V_far (p := ⟨gb226, 1, none⟩) (Kd.V_mono HO_28.out (fun k_ hk => (⟨hk, hk.1.2.1⟩ : _ ∧ k_ ≠ gb226))) (fun _ hk => hk.2) (.slice Ao61 y250.length co61)) (fun _ hk => ⟨hk.1.2, ⟨hk.1.1.1, ⟨hk.1.1.2.1, hk.1.1.2.2.2⟩⟩⟩)⟩, ⟨by (with_reducible repeat (first | apply Kd.R_alloc | apply Kd.R_drewN | apply Kd.R_drew)); exact Kd.R_mono (Kd.R_far (p := ⟨gb226, 1, none⟩) (Kd.R_types HO252.out BK226.out (by decide)) (fun _ hk => hk.2) (.slice Ao61 y250.length co61)) (fun _ hk => trivial)⟩, ⟨by (with_reducible repeat (first | refine blk_drewN ?_ _ | refine blk_drew ?_ | refine blk_alloc ?_ _)); refine blk_far ?_ NB223_226.out _; (with_reducible repeat (first | refine blk_drewN ?_ _ | refine blk_drew ?_ | refine blk_alloc ?_ _)); exact BK223.out⟩, ⟨by (with_reducible repeat (first | refine blk_drewN ?_ _ | refine blk_drew ?_ | refine blk_alloc ?_ _)); refine blk_put (cs := #[.int .i64 ji3, u227001]) ?_ 1 _ rfl; (with_reducible repeat (first | refine blk_drewN ?_ _ | refine blk_drew ?_ | refine blk_alloc ?_ _)); exact BK226.out⟩, ⟨by repeat (first | (with_reducible first | exact HI0.out | apply IsS74.alloc | apply IsS74.drewN | apply IsS74.drew | apply IsS74.set_1 | refine IsS74.far ?_ NB0_223.out _ | refine IsS74.far ?_ NB0_226.out _ | refine IsS74.far ?_ NB0_248.out _) | exact HI0.out)⟩, ⟨by repeat (first | (with_reducible first | exact HK.out | apply KeepBut.set_ | apply keep_drewN | apply keep_drew | apply keep_alloc | refine keep_far ?_ GW223.out _ | refine keep_far ?_ GW226.out _ | refine keep_far ?_ GW248.out _) | exact HK.out)⟩, ⟨by repeat (first | (with_reducible first | exact HB.out | apply below_alloc | apply pw_below_drewN | apply below_drew1 | refine below_set ?_ (IsS74.ge HI0.out) | refine below_set ?_ GE223.out | refine below_set ?_ GE226.out | refine below_set ?_ GE248.out) | exact HB.out)⟩⟩
              ·rw [if_neg c50] at H
               exact absurd H (by simp)
          ·rw [if_neg c33] at H
           exact absurd H (by simp)
         ·rw [if_neg c32] at H
          exact absurd H (by simp)
        ·rw [if_neg c31] at H
         have c31b0 : decide (x30_2 < ((rd_L1 y239 (ji3)).length : Int)) = false := decide_eq_false c31
         clear c31
         have H' := Aside0.mk H
         clear H
         go_wp2
         go_roundg k2
         case measure => have := HK1.out; have := HK2.out; omega
         case rel => exact ⟨(wrap64 (x5_1 - 1)), (x1001_2), (x227001_2), (u227001), (by first | rfl | (simp; done) | (simp [*]; done)), H', ⟨by have := HK1.out; have := HK2.out; omega⟩, ⟨by (with_reducible repeat (first | apply Kd.V_alloc | apply Kd.V_drewN | apply Kd.V_drew)); exact HO_4.out⟩, ⟨by (with_reducible repeat (first | apply Kd.R_alloc | apply Kd.R_drewN | apply Kd.R_drew)); exact HO_227001.out⟩, ⟨by (with_reducible repeat (first | refine blk_drewN ?_ _ | refine blk_drew ?_ | refine blk_alloc ?_ _)); exact BK223.out⟩, ⟨by (with_reducible repeat (first | refine blk_drewN ?_ _ | refine blk_drew ?_ | refine blk_alloc ?_ _)); exact BK226.out⟩, ⟨by repeat (first | (with_reducible first | exact HI0.out | apply IsS74.alloc | apply IsS74.drewN | apply IsS74.drew | apply IsS74.set_1 | refine IsS74.far ?_ NB0_223.out _ | refine IsS74.far ?_ NB0_226.out _) | exact HI0.out)⟩, ⟨by repeat (first | (with_reducible first | exact HK.out | apply KeepBut.set_ | apply keep_drewN | apply keep_drew | apply keep_alloc | refine keep_far ?_ GW223.out _ | refine keep_far ?_ GW226.out _) | exact HK.out)⟩, ⟨by repeat (first | (with_reducible first | exact HB.out | apply below_alloc | apply pw_below_drewN | apply below_drew1 | refine below_set ?_ (IsS74.ge HI0.out) | refine below_set ?_ GE223.out | refine below_set ?_ GE226.out) | exact HB.out)⟩⟩
     ·rw [if_neg c30] at H
      have c30b0 : decide (0 < x5_1) = false := decide_eq_false c30
      clear c30
      replace H := Option.bind_eq_some_iff.mp H
      obtain ⟨⟨t253, t254⟩, A630, H⟩ := H
      replace H : (if t253 = 1 then ((keyeventkit_Dice_Next.f s0_0 t254 6).bind fun bt255 => (some (bt255.1, x227001_1, bt255.2))) else (some (ji3, x227001_1, t254))) = some (r1, r2, r3) := H
      have A63 := Aside0.mk A630
      clear A630
      by_cases c64 : t253 = 1
      ·rw [if_pos c64] at H
       have c64b0 : (t253 == 1) = true := beq_iff_eq.mpr c64
       have c64b1 : (t253 != 1) = false := bne_eq_false_iff_eq.mpr c64
       clear c64
       replace H := Option.bind_eq_some_iff.mp H
       obtain ⟨⟨t255, t256⟩, A650, H⟩ := H
       replace H : (some (t255, x227001_1, t256)) = some (r1, r2, r3) := H
       have A65 := Aside0.mk A650
       clear A650
       simp only [Option.some.injEq, Prod.mk.injEq] at H
       obtain ⟨rfl, rfl, rfl⟩ := H
       go_wp2_with (first | ((with_reducible refine gate_callee (f := 39) rfl ?_); refine goesL_ (some 56) rfl rfl Try.func39 (by kernel_rfl) rfl #[.pointer (some ⟨g, 0, none⟩), .int .i64 12] rfl (by (try simp only [List.map_toArray, List.map_cons, List.map_nil]); first | done | rfl | (simp only [List.length_drop, List.length_take]; rfl)) ?_; (with_reducible refine (keyeventkit_Dice_Next.calls g s0_0 x1001_1 12 t253 t254 w0 _ ?side1 ?side2 A63.out).mono ?_); (case side1 => repeat (first | (with_reducible first | exact HI0.out | apply IsS74.alloc | apply IsS74.drewN | apply IsS74.drew | apply IsS74.set_1 | refine IsS74.far ?_ NB0_223.out _ | refine IsS74.far ?_ NB0_226.out _) | exact HI0.out)); (case side2 => repeat (first | (with_reducible first | exact HB.out | apply below_alloc | apply pw_below_drewN | apply below_drew1 | refine below_set ?_ (IsS74.ge HI0.out) | refine below_set ?_ GE223.out | refine below_set ?_ GE226.out) | exact HB.out)); rintro e w66 ⟨rfl, hi, hb, hk⟩; refine ⟨_, rfl, ?_⟩; have n0_ := Aside0.mk (Kd.V_mono (Kd.V_keep (Kd.V_mono (ok := fun k_ => (some k_ ≠ (u227001 : Value).ownBlock ∧ (k_ ≠ gb223 ∧ (k_ ≠ gb226 ∧ k_ ≠ g)))) (by (with_reducible repeat (first | apply Kd.V_alloc | apply Kd.V_drewN | apply Kd.V_drew)); exact HO_4.out) (fun k_ hk_ => (⟨hk_, hk_.2.2.2⟩ : _ ∧ k_ ≠ g))) hk (fun _ h => h.2)) (fun _ h => h.1)); have n1_ := Aside0.mk (Kd.R_mono (Kd.R_keep (IsS74.apart (show IsS74 w0 _ g s0_0 x1001_1 from by repeat (first | (with_reducible first | exact HI0.out | apply IsS74.alloc | apply IsS74.drewN | apply IsS74.drew | apply IsS74.set_1 | refine IsS74.far ?_ NB0_223.out _ | refine IsS74.far ?_ NB0_226.out _) | exact HI0.out)) (by (with_reducible repeat (first | apply Kd.R_alloc | apply Kd.R_drewN | apply Kd.R_drew)); exact HO_227001.out) (by decide)) hk (fun _ h => h.2)) (fun _ h => h.1)); have n2_ := Aside0.mk (KeepBut.blk hk (g' := gb223) (o := .cells #[.int .i64 0, .slice none 0 0] 25 (0, 0)) (by (with_reducible repeat (first | refine blk_drewN ?_ _ | refine blk_drew ?_ | refine blk_alloc ?_ _)); exact BK223.out) NB223_0.out (by simp)); have n3_ := Aside0.mk (KeepBut.blk hk (g' := gb226) (o := .cells #[.int .i64 ji3, u227001] 25 (0, 0)) (by (with_reducible repeat (first | refine blk_drewN ?_ _ | refine blk_drew ?_ | refine blk_alloc ?_ _)); exact BK226.out) NB226_0.out (by simp)); have n4_ := Aside0.mk (KeepBut.trans (by repeat (first | (with_reducible first | exact HK.out | apply KeepBut.set_ | apply keep_drewN | apply keep_drew | apply keep_alloc | refine keep_far ?_ GW223.out _ | refine keep_far ?_ GW226.out _) | exact HK.out)) hk (.inl rfl)); have n5_ := Aside0.mk (hb); have n6_ := Aside0.mk (hi); clear HO_4; clear HO_227001; clear BK223; clear BK226; clear HK; clear HB; clear HI0; have HO_4 := n0_; have HO_227001 := n1_; have BK223 := n2_; have BK226 := n3_; have HK := n4_; have HB := n5_; have HI0 := n6_; clear n0_ n1_ n2_ n3_ n4_ n5_ n6_; (try clear hb); (try clear hb2); (try clear hk); (try clear hi)) | ((with_reducible refine gate_callee (f := 39) rfl ?_); refine goesL_ (some 59) rfl rfl Try.func39 (by kernel_rfl) rfl #[.pointer (some ⟨g, 0, none⟩), .int .i64 6] rfl (by (try simp only [List.map_toArray, List.map_cons, List.map_nil]); first | done | rfl | (simp only [List.length_drop, List.length_take]; rfl)) ?_; (with_reducible refine (keyeventkit_Dice_Next.calls g s0_0 t254 6 t255 t256 w0 _ ?side1 ?side2 A65.out).mono ?_); (case side1 => repeat (first | (with_reducible first | exact HI0.out | apply IsS74.alloc | apply IsS74.drewN | apply IsS74.drew | apply IsS74.set_1 | refine IsS74.far ?_ NB0_223.out _ | refine IsS74.far ?_ NB0_226.out _) | exact HI0.out)); (case side2 => repeat (first | (with_reducible first | exact HB.out | apply below_alloc | apply pw_below_drewN | apply below_drew1 | refine below_set ?_ (IsS74.ge HI0.out) | refine below_set ?_ GE223.out | refine below_set ?_ GE226.out) | exact HB.out)); rintro e w67 ⟨rfl, hi, hb, hk⟩; refine ⟨_, rfl, ?_⟩; have n0_ := Aside0.mk (Kd.V_mono (Kd.V_keep (Kd.V_mono (ok := fun k_ => (some k_ ≠ (u227001 : Value).ownBlock ∧ (k_ ≠ gb223 ∧ (k_ ≠ gb226 ∧ k_ ≠ g)))) (by (with_reducible repeat (first | apply Kd.V_alloc | apply Kd.V_drewN | apply Kd.V_drew)); exact HO_4.out) (fun k_ hk_ => (⟨hk_, hk_.2.2.2⟩ : _ ∧ k_ ≠ g))) hk (fun _ h => h.2)) (fun _ h => h.1)); have n1_ := Aside0.mk (Kd.R_mono (Kd.R_keep (IsS74.apart (show IsS74 w0 _ g s0_0 t254 from by repeat (first | (with_reducible first | exact HI0.out | apply IsS74.alloc | apply IsS74.drewN | apply IsS74.drew | apply IsS74.set_1 | refine IsS74.far ?_ NB0_223.out _ | refine IsS74.far ?_ NB0_226.out _) | exact HI0.out)) (by (with_reducible repeat (first | apply Kd.R_alloc | apply Kd.R_drewN | apply Kd.R_drew)); exact HO_227001.out) (by decide)) hk (fun _ h => h.2)) (fun _ h => h.1)); have n2_ := Aside0.mk (KeepBut.blk hk (g' := gb223) (o := .cells #[.int .i64 0, .slice none 0 0] 25 (0, 0)) (by (with_reducible repeat (first | refine blk_drewN ?_ _ | refine blk_drew ?_ | refine blk_alloc ?_ _)); exact BK223.out) NB223_0.out (by simp)); have n3_ := Aside0.mk (KeepBut.blk hk (g' := gb226) (o := .cells #[.int .i64 ji3, u227001] 25 (0, 0)) (by (with_reducible repeat (first | refine blk_drewN ?_ _ | refine blk_drew ?_ | refine blk_alloc ?_ _)); exact BK226.out) NB226_0.out (by simp)); have n4_ := Aside0.mk (KeepBut.trans (by repeat (first | (with_reducible first | exact HK.out | apply KeepBut.set_ | apply keep_drewN | apply keep_drew | apply keep_alloc | refine keep_far ?_ GW223.out _ | refine keep_far ?_ GW226.out _) | exact HK.out)) hk (.inl rfl)); have n5_ := Aside0.mk (hb); have n6_ := Aside0.mk (hi); clear HO_4; clear HO_227001; clear BK223; clear BK226; clear HK; clear HB; clear HI0; have HO_4 := n0_; have HO_227001 := n1_; have BK223 := n2_; have BK226 := n3_; have HK := n4_; have HB := n5_; have HI0 := n6_; clear n0_ n1_ n2_ n3_ n4_ n5_ n6_; (try clear hb); (try clear hb2); (try clear hk); (try clear hi); have hnb68 := NB226_223.out; have hnc68 := NB223_226.out; have hnb69 := NB226_0.out; have hnc69 := NB0_226.out; have hcz70_0 : w67.cell? ⟨gb226, 0, none⟩ = some (.int .i64 ji3) := (blk_cell BK226.out 0).trans rfl; have hcz70_1 : w67.cell? ⟨gb226, 1, none⟩ = some (u227001) := (blk_cell BK226.out 1).trans rfl; have hfz70_0 := blk_frozen BK226.out 0; have hfz70_1 := blk_frozen BK226.out 1; have hnb71 := NB223_0.out; have hnc71 := NB0_223.out; have hcz72_0 : w67.cell? ⟨gb223, 0, none⟩ = some (.int .i64 0) := (blk_cell BK223.out 0).trans rfl; have hcz72_1 : w67.cell? ⟨gb223, 1, none⟩ = some (.slice none 0 0) := (blk_cell BK223.out 1).trans rfl; have hfz72_0 := blk_frozen BK223.out 0; have hfz72_1 := blk_frozen BK223.out 1; obtain ⟨Ao73, co73, eo73⟩ := Kd.R_slice HO_227001.out; subst eo73))
       refine bodyPost_ret (results_cell_row rfl _ _ gb223 25 #[.int .i64 t255, .slice Ao73 x227001_1.length co73] (0, 0) _ rfl (by (with_reducible repeat (first | refine blk_drewN ?_ _ | refine blk_drew ?_ | refine blk_alloc ?_ _)); refine blk_put (cs := #[.int .i64 t255, .slice none 0 0]) ?_ 1 _ rfl; (with_reducible repeat (first | refine blk_drewN ?_ _ | refine blk_drew ?_ | refine blk_alloc ?_ _)); refine blk_put (cs := #[.int .i64 0, .slice none 0 0]) ?_ 0 _ rfl; (with_reducible repeat (first | refine blk_drewN ?_ _ | refine blk_drew ?_ | refine blk_alloc ?_ _)); refine blk_far ?_ NB223_226.out _; (with_reducible repeat (first | refine blk_drewN ?_ _ | refine blk_drew ?_ | refine blk_alloc ?_ _)); exact BK223.out) Try.underlying25 rfl (by kernel_rfl)) rfl ?_
       exact ⟨_, by first | rfl | (simp [errW_none, errW_some] <;> rfl) | (simp only [← hji3]; first | rfl | (simp [errW_none, errW_some] <;> rfl)) | (simp [*, errW_none, errW_some] <;> rfl), by (with_reducible repeat (first | apply Kd.R_alloc | apply Kd.R_drewN | apply Kd.R_drew)); exact Kd.R_mono (Kd.R_far (p := ⟨gb223, 1, none⟩) (Kd.R_far (p := ⟨gb223, 0, none⟩) (Kd.R_far (p := ⟨gb226, 0, none⟩) (Kd.R_types (Kd.R_types HO_227001.out BK226.out (by decide)) BK223.out (by decide)) (fun _ hk => hk.1.2) (.int .i64 t255)) (fun _ hk => hk.2) (.int .i64 t255)) (fun _ hk => hk.2) (.slice Ao73 x227001_1.length co73)) (fun _ hk => trivial), by repeat (first | (with_reducible first | exact HI0.out | apply IsS74.alloc | apply IsS74.drewN | apply IsS74.drew | apply IsS74.set_1 | refine IsS74.far ?_ NB0_223.out _ | refine IsS74.far ?_ NB0_226.out _) | exact HI0.out), by repeat (first | (with_reducible first | exact HB.out | apply below_alloc | apply pw_below_drewN | apply below_drew1 | refine below_set ?_ (IsS74.ge HI0.out) | refine below_set ?_ GE223.out | refine below_set ?_ GE226.out) | exact HB.out), by repeat (first | (with_reducible first | exact HK.out | apply KeepBut.set_ | apply keep_drewN | apply keep_drew | apply keep_alloc | refine keep_far ?_ GW223.out _ | refine keep_far ?_ GW226.out _) | exact HK.out)⟩
      ·rw [if_neg c64] at H
       have c64b0 : (t253 == 1) = false := beq_eq_false_iff_ne.mpr c64
       have c64b1 : (t253 != 1) = true := bne_iff_ne.mpr c64
       simp only [Option.some.injEq, Prod.mk.injEq] at H
       obtain ⟨rfl, rfl, rfl⟩ := H
       go_wp2_with (first | ((with_reducible refine gate_callee (f := 39) rfl ?_); refine goesL_ (some 56) rfl rfl Try.func39 (by kernel_rfl) rfl #[.pointer (some ⟨g, 0, none⟩), .int .i64 12] rfl (by (try simp only [List.map_toArray, List.map_cons, List.map_nil]); first | done | rfl | (simp only [List.length_drop, List.length_take]; rfl)) ?_; (with_reducible refine (keyeventkit_Dice_Next.calls g s0_0 x1001_1 12 t253 t254 w0 _ ?side1 ?side2 A63.out).mono ?_); (case side1 => repeat (first | (with_reducible first | exact HI0.out | apply IsS74.alloc | apply IsS74.drewN | apply IsS74.drew | apply IsS74.set_1 | refine IsS74.far ?_ NB0_223.out _ | refine IsS74.far ?_ NB0_226.out _) | exact HI0.out)); (case side2 => repeat (first | (with_reducible first | exact HB.out | apply below_alloc | apply pw_below_drewN | apply below_drew1 | refine below_set ?_ (IsS74.ge HI0.out) | refine below_set ?_ GE223.out | refine below_set ?_ GE226.out) | exact HB.out)); rintro e w74 ⟨rfl, hi, hb, hk⟩; refine ⟨_, rfl, ?_⟩; have n0_ := Aside0.mk (Kd.V_mono (Kd.V_keep (Kd.V_mono (ok := fun k_ => (some k_ ≠ (u227001 : Value).ownBlock ∧ (k_ ≠ gb223 ∧ (k_ ≠ gb226 ∧ k_ ≠ g)))) (by (with_reducible repeat (first | apply Kd.V_alloc | apply Kd.V_drewN | apply Kd.V_drew)); exact HO_4.out) (fun k_ hk_ => (⟨hk_, hk_.2.2.2⟩ : _ ∧ k_ ≠ g))) hk (fun _ h => h.2)) (fun _ h => h.1)); have n1_ := Aside0.mk (Kd.R_mono (Kd.R_keep (IsS74.apart (show IsS74 w0 _ g s0_0 x1001_1 from by repeat (first | (with_reducible first | exact HI0.out | apply IsS74.alloc | apply IsS74.drewN | apply IsS74.drew | apply IsS74.set_1 | refine IsS74.far ?_ NB0_223.out _ | refine IsS74.far ?_ NB0_226.out _) | exact HI0.out)) (by (with_reducible repeat (first | apply Kd.R_alloc | apply Kd.R_drewN | apply Kd.R_drew)); exact HO_227001.out) (by decide)) hk (fun _ h => h.2)) (fun _ h => h.1)); have n2_ := Aside0.mk (KeepBut.blk hk (g' := gb223) (o := .cells #[.int .i64 0, .slice none 0 0] 25 (0, 0)) (by (with_reducible repeat (first | refine blk_drewN ?_ _ | refine blk_drew ?_ | refine blk_alloc ?_ _)); exact BK223.out) NB223_0.out (by simp)); have n3_ := Aside0.mk (KeepBut.blk hk (g' := gb226) (o := .cells #[.int .i64 ji3, u227001] 25 (0, 0)) (by (with_reducible repeat (first | refine blk_drewN ?_ _ | refine blk_drew ?_ | refine blk_alloc ?_ _)); exact BK226.out) NB226_0.out (by simp)); have n4_ := Aside0.mk (KeepBut.trans (by repeat (first | (with_reducible first | exact HK.out | apply KeepBut.set_ | apply keep_drewN | apply keep_drew | apply keep_alloc | refine keep_far ?_ GW223.out _ | refine keep_far ?_ GW226.out _) | exact HK.out)) hk (.inl rfl)); have n5_ := Aside0.mk (hb); have n6_ := Aside0.mk (hi); clear HO_4; clear HO_227001; clear BK223; clear BK226; clear HK; clear HB; clear HI0; have HO_4 := n0_; have HO_227001 := n1_; have BK223 := n2_; have BK226 := n3_; have HK := n4_; have HB := n5_; have HI0 := n6_; clear n0_ n1_ n2_ n3_ n4_ n5_ n6_; (try clear hb); (try clear hb2); (try clear hk); (try clear hi); have hnb75 := NB226_223.out; have hnc75 := NB223_226.out; have hnb76 := NB226_0.out; have hnc76 := NB0_226.out; have hcz77_0 : w74.cell? ⟨gb226, 0, none⟩ = some (.int .i64 ji3) := (blk_cell BK226.out 0).trans rfl; have hcz77_1 : w74.cell? ⟨gb226, 1, none⟩ = some (u227001) := (blk_cell BK226.out 1).trans rfl; have hfz77_0 := blk_frozen BK226.out 0; have hfz77_1 := blk_frozen BK226.out 1; have hnb78 := NB223_0.out; have hnc78 := NB0_223.out; have hcz79_0 : w74.cell? ⟨gb223, 0, none⟩ = some (.int .i64 0) := (blk_cell BK223.out 0).trans rfl; have hcz79_1 : w74.cell? ⟨gb223, 1, none⟩ = some (.slice none 0 0) := (blk_cell BK223.out 1).trans rfl; have hfz79_0 := blk_frozen BK223.out 0; have hfz79_1 := blk_frozen BK223.out 1; obtain ⟨Ao80, co80, eo80⟩ := Kd.R_slice HO_227001.out; subst eo80))
       refine bodyPost_ret (results_cell_row rfl _ _ gb223 25 #[.int .i64 ji3, .slice Ao80 x227001_1.length co80] (0, 0) _ rfl (by (with_reducible repeat (first | refine blk_drewN ?_ _ | refine blk_drew ?_ | refine blk_alloc ?_ _)); refine blk_put (cs := #[.int .i64 ji3, .slice none 0 0]) ?_ 1 _ rfl; (with_reducible repeat (first | refine blk_drewN ?_ _ | refine blk_drew ?_ | refine blk_alloc ?_ _)); refine blk_put (cs := #[.int .i64 0, .slice none 0 0]) ?_ 0 _ rfl; (with_reducible repeat (first | refine blk_drewN ?_ _ | refine blk_drew ?_ | refine blk_alloc ?_ _)); exact BK223.out) Try.underlying25 rfl (by kernel_rfl)) rfl ?_
       exact ⟨_, by first | rfl | (simp [errW_none, errW_some] <;> rfl) | (simp only [← hji3]; first | rfl | (simp [errW_none, errW_some] <;> rfl)) | (simp [*, errW_none, errW_some] <;> rfl), by (with_reducible repeat (first | apply Kd.R_alloc | apply Kd.R_drewN | apply Kd.R_drew)); exact Kd.R_mono (Kd.R_far (p := ⟨gb223, 1, none⟩) (Kd.R_far (p := ⟨gb223, 0, none⟩) (Kd.R_types HO_227001.out BK223.out (by decide)) (fun _ hk => hk.2) (.int .i64 ji3)) (fun _ hk => hk.2) (.slice Ao80 x227001_1.length co80)) (fun _ hk => trivial), by repeat (first | (with_reducible first | exact HI0.out | apply IsS74.alloc | apply IsS74.drewN | apply IsS74.drew | apply IsS74.set_1 | refine IsS74.far ?_ NB0_223.out _ | refine IsS74.far ?_ NB0_226.out _) | exact HI0.out), by repeat (first | (with_reducible first | exact HB.out | apply below_alloc | apply pw_below_drewN | apply below_drew1 | refine below_set ?_ (IsS74.ge HI0.out) | refine below_set ?_ GE223.out | refine below_set ?_ GE226.out) | exact HB.out), by repeat (first | (with_reducible first | exact HK.out | apply KeepBut.set_ | apply keep_drewN | apply keep_drew | apply keep_alloc | refine keep_far ?_ GW223.out _ | refine keep_far ?_ GW226.out _) | exact HK.out)⟩
  ·rw [if_neg c5] at H
   exact absurd H (by simp)
 ·rw [if_neg c4] at H
  exact absurd H (by simp)

end Go.Proofs.Ytookjdhfpbmjkaa.X
