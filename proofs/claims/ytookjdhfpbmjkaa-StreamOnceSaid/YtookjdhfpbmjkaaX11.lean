-- Written by xprint.py, a program of this repo that leads the kit's print.py: Lean checks it.
import Derived.Test.YtookjdhfpbmjkaaX0
import Derived.Test.YtookjdhfpbmjkaaX10
namespace Go.Proofs.Ytookjdhfpbmjkaa.X
open Go.RowKit Go.Proofs.YtookjdhfpbmjkaaW.PrintWords Go.Proofs.YtookjdhfpbmjkaaW.PrintLast Go.Proofs.YtookjdhfpbmjkaaW.PrintMore
attribute [local go_sem] max2_int min2_int max_two min_two max_three min_three max_four min_four   -- for this text's walks alone
set_option linter.unusedVariables false
set_option linter.unusedSimpArgs false

/-! ### keyeventkit_Group: function 15 -/
mutual
def keyeventkit_Group.l0 : Nat → List Int → Int → List Int → Int → Int → List (S27) → Option (Int × (List (S27)) × Int)
  | 0, _, _, _, _, _, _ => none
  | k + 1, x4, x5, x1000, x1001, x218000, x218001 => if x5 > 0 then (keyeventkit_Group.l1 k x4 x5 x4 (x4.length : Int) 0 x1000 x1001 x218000 x218001) else ((keyeventkit_Dice_Next.f x1000 x1001 12).bind fun bt244 => (if bt244.1 = 1 then ((keyeventkit_Dice_Next.f x1000 bt244.2 6).bind fun bt246 => (some (bt246.1, x218001, bt246.2))) else (some (x218000, x218001, bt244.2))))
def keyeventkit_Group.l1 : Nat → List Int → Int → List Int → Int → Int → List Int → Int → Int → List (S27) → Option (Int × (List (S27)) × Int)
  | 0, _, _, _, _, _, _, _, _, _ => none
  | k + 1, x4, x5, x28, x29, x30, x1000, x1001, x218000, x218001 => if x30 < x29 then (if 0 ≤ x30 then (if x30 < (x28.length : Int) then ((keyeventkit_Dice_Bytes.f k x1000 x1001 4).bind fun bt237 => (keyeventkit_Group.l2 k x4 x5 (rd x28 x30) x28 x29 x30 x1000 bt237.2 x218000 x218001 (rd x28 x30) bt237.1)) else (none)) else (none)) else (keyeventkit_Group.l0 k x4 (wrap64 (x5 - 1)) x1000 x1001 x218000 x218001)
def keyeventkit_Group.l2 : Nat → List Int → Int → Int → List Int → Int → Int → List Int → Int → Int → List (S27) → Int → ByteArray → Option (Int × (List (S27)) × Int)
  | 0, _, _, _, _, _, _, _, _, _, _, _, _ => none
  | k + 1, x4, x5, x7, x28, x29, x30, x1000, x1001, x218000, x218001, x240000, x240001 => (keyeventref03_Raw.f x7).bind fun t240 => (if (x240001.size : Int) < t240 then (if x240001.size + 1 ≤ 9223372036854775807 then (keyeventkit_Group.l2 k x4 x5 x7 x28 x29 x30 x1000 x1001 x218000 x218001 x240000 (x240001 ++ (⟨#[1]⟩ : ByteArray))) else (none)) else (if x218001.length < 5864062014805 then (keyeventkit_Group.l1 k x4 x5 x28 x29 (wrap64 (x30 + 1)) x1000 x1001 x218000 (x218001 ++ [(⟨x240000, x240001⟩ : S27)])) else (none)))
end
def keyeventkit_Group.f (k : Nat) (s0_0 : List Int) (s0_1 : Int) : Option (Int × (List (S27)) × Int) := (keyeventkit_Dice_Next.f s0_0 s0_1 4).bind fun bt215 => ((some (([[], (([7] : List Int)), (([7] : List Int)), (([3, 7] : List Int)), (([8, 1] : List Int))] : List (List Int)) : List (List Int))).bind fun y230 => (if 0 ≤ (wrap64 (1 + bt215.1)) then (if (wrap64 (1 + bt215.1)) < (y230.length : Int) then ((keyeventkit_Dice_Next.f s0_0 bt215.2 3).bind fun bt234 => (keyeventkit_Group.l0 k (rd_L1 y230 (wrap64 (1 + bt215.1))) bt234.1 s0_0 bt234.2 (wrap64 (1 + bt215.1)) ([] : List (S27)))) else (none)) else (none)))
theorem keyeventkit_Group.mono_l : ∀ k, (∀ y0 y1 y2 y3 y4 y5, LeO (keyeventkit_Group.l0 k y0 y1 y2 y3 y4 y5) (keyeventkit_Group.l0 (k + 1) y0 y1 y2 y3 y4 y5)) ∧ (∀ y0 y1 y2 y3 y4 y5 y6 y7 y8, LeO (keyeventkit_Group.l1 k y0 y1 y2 y3 y4 y5 y6 y7 y8) (keyeventkit_Group.l1 (k + 1) y0 y1 y2 y3 y4 y5 y6 y7 y8)) ∧ (∀ y0 y1 y2 y3 y4 y5 y6 y7 y8 y9 y10 y11, LeO (keyeventkit_Group.l2 k y0 y1 y2 y3 y4 y5 y6 y7 y8 y9 y10 y11) (keyeventkit_Group.l2 (k + 1) y0 y1 y2 y3 y4 y5 y6 y7 y8 y9 y10 y11))
  | 0 => ⟨fun _ _ _ _ _ _ r h => by simp [keyeventkit_Group.l0] at h, fun _ _ _ _ _ _ _ _ _ r h => by simp [keyeventkit_Group.l1] at h, fun _ _ _ _ _ _ _ _ _ _ _ _ r h => by simp [keyeventkit_Group.l2] at h⟩
  | k + 1 => by
    obtain ⟨ih0, ih1, ih2⟩ := keyeventkit_Group.mono_l k
    refine ⟨?_, ?_, ?_⟩
    · intro y0 y1 y2 y3 y4 y5
      unfold keyeventkit_Group.l0
      repeat' first
      | (with_reducible exact ih0 _ _ _ _ _ _)
      | (with_reducible exact ih1 _ _ _ _ _ _ _ _ _)
      | (with_reducible exact ih2 _ _ _ _ _ _ _ _ _ _ _ _)
      | (with_reducible exact keyeventkit_Dice_Bytes.mono _ _ _ _)
      | (with_reducible exact LeO.refl _)
      | (with_reducible exact LeO.none _)
      | (with_reducible refine LeO.ite ?_ ?_)
      | (with_reducible refine LeO.bind ?_ (fun _ => ?_))
      | exact ih0 _ _ _ _ _ _
      | exact ih1 _ _ _ _ _ _ _ _ _
      | exact ih2 _ _ _ _ _ _ _ _ _ _ _ _
      | exact keyeventkit_Dice_Bytes.mono _ _ _ _
      | exact LeO.none _
      | refine LeO.ite ?_ ?_
      | refine LeO.bind ?_ (fun _ => ?_)
    · intro y0 y1 y2 y3 y4 y5 y6 y7 y8
      unfold keyeventkit_Group.l1
      repeat' first
      | (with_reducible exact ih0 _ _ _ _ _ _)
      | (with_reducible exact ih1 _ _ _ _ _ _ _ _ _)
      | (with_reducible exact ih2 _ _ _ _ _ _ _ _ _ _ _ _)
      | (with_reducible exact keyeventkit_Dice_Bytes.mono _ _ _ _)
      | (with_reducible exact LeO.refl _)
      | (with_reducible exact LeO.none _)
      | (with_reducible refine LeO.ite ?_ ?_)
      | (with_reducible refine LeO.bind ?_ (fun _ => ?_))
      | exact ih0 _ _ _ _ _ _
      | exact ih1 _ _ _ _ _ _ _ _ _
      | exact ih2 _ _ _ _ _ _ _ _ _ _ _ _
      | exact keyeventkit_Dice_Bytes.mono _ _ _ _
      | exact LeO.none _
      | refine LeO.ite ?_ ?_
      | refine LeO.bind ?_ (fun _ => ?_)
    · intro y0 y1 y2 y3 y4 y5 y6 y7 y8 y9 y10 y11
      unfold keyeventkit_Group.l2
      repeat' first
      | (with_reducible exact ih0 _ _ _ _ _ _)
      | (with_reducible exact ih1 _ _ _ _ _ _ _ _ _)
      | (with_reducible exact ih2 _ _ _ _ _ _ _ _ _ _ _ _)
      | (with_reducible exact keyeventkit_Dice_Bytes.mono _ _ _ _)
      | (with_reducible exact LeO.refl _)
      | (with_reducible exact LeO.none _)
      | (with_reducible refine LeO.ite ?_ ?_)
      | (with_reducible refine LeO.bind ?_ (fun _ => ?_))
      | exact ih0 _ _ _ _ _ _
      | exact ih1 _ _ _ _ _ _ _ _ _
      | exact ih2 _ _ _ _ _ _ _ _ _ _ _ _
      | exact keyeventkit_Dice_Bytes.mono _ _ _ _
      | exact LeO.none _
      | refine LeO.ite ?_ ?_
      | refine LeO.bind ?_ (fun _ => ?_)
theorem keyeventkit_Group.mono : ∀ a0 a1 k, LeO (keyeventkit_Group.f k a0 a1) (keyeventkit_Group.f (k + 1) a0 a1) := by
  intro a0 a1 k
  obtain ⟨ih0, ih1, ih2⟩ := keyeventkit_Group.mono_l k
  unfold keyeventkit_Group.f
  repeat' first
      | (with_reducible exact ih0 _ _ _ _ _ _)
      | (with_reducible exact ih1 _ _ _ _ _ _ _ _ _)
      | (with_reducible exact ih2 _ _ _ _ _ _ _ _ _ _ _ _)
      | (with_reducible exact keyeventkit_Dice_Bytes.mono _ _ _ _)
      | (with_reducible exact LeO.refl _)
      | (with_reducible exact LeO.none _)
      | (with_reducible refine LeO.ite ?_ ?_)
      | (with_reducible refine LeO.bind ?_ (fun _ => ?_))
      | exact ih0 _ _ _ _ _ _
      | exact ih1 _ _ _ _ _ _ _ _ _
      | exact ih2 _ _ _ _ _ _ _ _ _ _ _ _
      | exact keyeventkit_Dice_Bytes.mono _ _ _ _
      | exact LeO.none _
      | refine LeO.ite ?_ ?_
      | refine LeO.bind ?_ (fun _ => ?_)
set_option maxHeartbeats 8000000 in
set_option maxRecDepth 100000 in
theorem keyeventkit_Group.calls (k : Nat) (g : Nat) (s0_0 : List Int) (s0_1 : Int) (r1 : Int) (r2 : List (S27)) (r3 : Int) (w0 w : World) (hI : IsS74 w0 w g s0_0 s0_1) (hB : Below w0.heap.size w0 w) (h : keyeventkit_Group.f k s0_0 s0_1 = some (r1, r2, r3)) :
    Calls Try.prog 15 #[.pointer (some ⟨g, 0, none⟩)] w fun e w' => ∃ v1_ : Value, e = .returned (.agg #[.int .i64 r1, v1_]) ∧ Kd.R k27 27 w' w.heap.size (fun _ => True) v1_ r2 ∧ IsS74 w0 w' g s0_0 r3 ∧ Below w0.heap.size w0 w' ∧ KeepBut w w' g none := by
 have hu25 := Try.underlying25
 have hu27 := Try.underlying27
 have HI0 := Aside0.mk hI
 have HK := Aside0.mk (KeepBut.refl w g none)
 have HL := Aside0.mk hB.size
 clear hI
 have HW0 := Aside0.mk hB.size
 have HB := Aside0.mk hB
 clear hB
 have H : ((keyeventkit_Dice_Next.f s0_0 s0_1 4).bind fun bt215 => ((some (([[], (([7] : List Int)), (([7] : List Int)), (([3, 7] : List Int)), (([8, 1] : List Int))] : List (List Int)) : List (List Int))).bind fun y230 => (if 0 ≤ (wrap64 (1 + bt215.1)) then (if (wrap64 (1 + bt215.1)) < (y230.length : Int) then ((keyeventkit_Dice_Next.f s0_0 bt215.2 3).bind fun bt234 => (keyeventkit_Group.l0 k (rd_L1 y230 (wrap64 (1 + bt215.1))) bt234.1 s0_0 bt234.2 (wrap64 (1 + bt215.1)) ([] : List (S27)))) else (none)) else (none)))) = some (r1, r2, r3) := h
 clear h
 replace H := Option.bind_eq_some_iff.mp H
 obtain ⟨⟨t215, t216⟩, A20, H⟩ := H
 replace H : ((some (([[], (([7] : List Int)), (([7] : List Int)), (([3, 7] : List Int)), (([8, 1] : List Int))] : List (List Int)) : List (List Int))).bind fun y230 => (if 0 ≤ (wrap64 (1 + t215)) then (if (wrap64 (1 + t215)) < (y230.length : Int) then ((keyeventkit_Dice_Next.f s0_0 t216 3).bind fun bt234 => (keyeventkit_Group.l0 k (rd_L1 y230 (wrap64 (1 + t215))) bt234.1 s0_0 bt234.2 (wrap64 (1 + t215)) ([] : List (S27)))) else (none)) else (none))) = some (r1, r2, r3) := H
 have A2 := Aside0.mk A20
 clear A20
 obtain ⟨y218, hy218⟩ : ∃ y_ : List Int, y_ = (([7] : List Int)) := ⟨_, rfl⟩
 replace H : ((some (([[], y218, (([7] : List Int)), (([3, 7] : List Int)), (([8, 1] : List Int))] : List (List Int)) : List (List Int))).bind fun y230 => (if 0 ≤ (wrap64 (1 + t215)) then (if (wrap64 (1 + t215)) < (y230.length : Int) then ((keyeventkit_Dice_Next.f s0_0 t216 3).bind fun bt234 => (keyeventkit_Group.l0 k (rd_L1 y230 (wrap64 (1 + t215))) bt234.1 s0_0 bt234.2 (wrap64 (1 + t215)) ([] : List (S27)))) else (none)) else (none))) = some (r1, r2, r3) := by first | (rw [hy218]; with_reducible exact H) | (have H2_ := (Option.bind_some _ _).symm.trans H; rw [hy218]; with_reducible exact H2_) | (have H2_ := (Option.bind_some _ _).symm.trans H; with_reducible exact H2_) | with_reducible exact H | (rw [hy218]; exact H) | exact H
 have Ny218 := Aside0.mk hy218
 clear hy218
 obtain ⟨y221, hy221⟩ : ∃ y_ : List Int, y_ = (([7] : List Int)) := ⟨_, rfl⟩
 replace H : ((some (([[], y218, y221, (([3, 7] : List Int)), (([8, 1] : List Int))] : List (List Int)) : List (List Int))).bind fun y230 => (if 0 ≤ (wrap64 (1 + t215)) then (if (wrap64 (1 + t215)) < (y230.length : Int) then ((keyeventkit_Dice_Next.f s0_0 t216 3).bind fun bt234 => (keyeventkit_Group.l0 k (rd_L1 y230 (wrap64 (1 + t215))) bt234.1 s0_0 bt234.2 (wrap64 (1 + t215)) ([] : List (S27)))) else (none)) else (none))) = some (r1, r2, r3) := by first | (rw [hy221]; with_reducible exact H) | (have H2_ := (Option.bind_some _ _).symm.trans H; rw [hy221]; with_reducible exact H2_) | (have H2_ := (Option.bind_some _ _).symm.trans H; with_reducible exact H2_) | with_reducible exact H | (rw [hy221]; exact H) | exact H
 have Ny221 := Aside0.mk hy221
 clear hy221
 obtain ⟨y224, hy224⟩ : ∃ y_ : List Int, y_ = (([3, 7] : List Int)) := ⟨_, rfl⟩
 replace H : ((some (([[], y218, y221, y224, (([8, 1] : List Int))] : List (List Int)) : List (List Int))).bind fun y230 => (if 0 ≤ (wrap64 (1 + t215)) then (if (wrap64 (1 + t215)) < (y230.length : Int) then ((keyeventkit_Dice_Next.f s0_0 t216 3).bind fun bt234 => (keyeventkit_Group.l0 k (rd_L1 y230 (wrap64 (1 + t215))) bt234.1 s0_0 bt234.2 (wrap64 (1 + t215)) ([] : List (S27)))) else (none)) else (none))) = some (r1, r2, r3) := by first | (rw [hy224]; with_reducible exact H) | (have H2_ := (Option.bind_some _ _).symm.trans H; rw [hy224]; with_reducible exact H2_) | (have H2_ := (Option.bind_some _ _).symm.trans H; with_reducible exact H2_) | with_reducible exact H | (rw [hy224]; exact H) | exact H
 have Ny224 := Aside0.mk hy224
 clear hy224
 obtain ⟨y227, hy227⟩ : ∃ y_ : List Int, y_ = (([8, 1] : List Int)) := ⟨_, rfl⟩
 replace H : ((some (([[], y218, y221, y224, y227] : List (List Int)) : List (List Int))).bind fun y230 => (if 0 ≤ (wrap64 (1 + t215)) then (if (wrap64 (1 + t215)) < (y230.length : Int) then ((keyeventkit_Dice_Next.f s0_0 t216 3).bind fun bt234 => (keyeventkit_Group.l0 k (rd_L1 y230 (wrap64 (1 + t215))) bt234.1 s0_0 bt234.2 (wrap64 (1 + t215)) ([] : List (S27)))) else (none)) else (none))) = some (r1, r2, r3) := by first | (rw [hy227]; with_reducible exact H) | (have H2_ := (Option.bind_some _ _).symm.trans H; rw [hy227]; with_reducible exact H2_) | (have H2_ := (Option.bind_some _ _).symm.trans H; with_reducible exact H2_) | with_reducible exact H | (rw [hy227]; exact H) | exact H
 have Ny227 := Aside0.mk hy227
 clear hy227
 obtain ⟨y230, hy230⟩ : ∃ y_ : List (List Int), y_ = (([[], y218, y221, y224, y227] : List (List Int))) := ⟨_, rfl⟩
 replace H : (if 0 ≤ (wrap64 (1 + t215)) then (if (wrap64 (1 + t215)) < (y230.length : Int) then ((keyeventkit_Dice_Next.f s0_0 t216 3).bind fun bt234 => (keyeventkit_Group.l0 k (rd_L1 y230 (wrap64 (1 + t215))) bt234.1 s0_0 bt234.2 (wrap64 (1 + t215)) ([] : List (S27)))) else (none)) else (none)) = some (r1, r2, r3) := by first | (rw [hy230]; with_reducible exact H) | (have H2_ := (Option.bind_some _ _).symm.trans H; rw [hy230]; with_reducible exact H2_) | (have H2_ := (Option.bind_some _ _).symm.trans H; with_reducible exact H2_) | with_reducible exact H | (rw [hy230]; exact H) | exact H
 have Ny230 := Aside0.mk hy230
 clear hy230
 obtain ⟨ji3, hji3⟩ : ∃ j_ : Int, (wrap64 (1 + t215)) = j_ := ⟨_, rfl⟩
 replace H : (if 0 ≤ (ji3) then (if (ji3) < (y230.length : Int) then ((keyeventkit_Dice_Next.f s0_0 t216 3).bind fun bt234 => (keyeventkit_Group.l0 k (rd_L1 y230 (ji3)) bt234.1 s0_0 bt234.2 ji3 ([] : List (S27)))) else (none)) else (none)) = some (r1, r2, r3) := by first | (rw [hji3] at H; exact H) | (simp only [hji3] at H ⊢; exact H)
 (try rw [hji3] at A2)
 have hji3w : (IntKind.i64.wrap (1 + t215)) = ji3 := (i64_w _).trans hji3
 by_cases c4 : 0 ≤ (ji3)
 ·rw [if_pos c4] at H
  have c4b0 : decide (0 ≤ (ji3)) = true := decide_eq_true c4
  clear c4
  by_cases c5 : (ji3) < (y230.length : Int)
  ·rw [if_pos c5] at H
   have c5b0 : decide ((ji3) < (y230.length : Int)) = true := decide_eq_true c5
   clear c5
   replace H := Option.bind_eq_some_iff.mp H
   obtain ⟨⟨t234, t235⟩, A60, H⟩ := H
   replace H : (keyeventkit_Group.l0 k (rd_L1 y230 (ji3)) t234 s0_0 t235 ji3 ([] : List (S27))) = some (r1, r2, r3) := H
   have A6 := Aside0.mk A60
   clear A60
   have H' := Aside0.mk H
   clear H
   go_enter Try.func15, Try.ntmps15
   go_wp2_with (first | ((with_reducible refine gate_dst (N := 2) rfl ?_); refine box_event ?hg (N := 2) ?hd (cs := #[.int .i64 0, .slice none 0 0]) (t := 25) ?hr ?_; (case hd => rfl); (case hg => rfl); (case hr => first | (go_simp; done) | (go_simp; rfl)); intro gb214 hg w7 hbox hb; have n0_ := Aside0.mk (IsS74.below (by repeat (first | (with_reducible first | exact HI0.out | apply IsS74.alloc | apply IsS74.drewN | apply IsS74.drew | apply IsS74.set_1) | exact HI0.out)) hb); have n1_ := Aside0.mk (KeepBut.trans (by repeat (first | (with_reducible first | exact HK.out | apply KeepBut.set_ | apply keep_drewN | apply keep_drew | apply keep_alloc) | exact HK.out)) (KeepBut.of_below hb g none) (.inl rfl)); have n2_ := Aside0.mk (below_step (by repeat (first | (with_reducible first | exact HB.out | apply below_alloc | apply pw_below_drewN | apply below_drew1 | refine below_set ?_ (IsS74.ge HI0.out)) | exact HB.out)) hb); have n3_ := Aside0.mk (hbox); have n4_ := Aside0.mk ((by rw [hg]; exact (keep_size (w := w) (g := g) (row := none) (by repeat (first | (with_reducible first | exact HK.out | apply KeepBut.set_ | apply keep_drewN | apply keep_drew | apply keep_alloc) | exact HK.out))) : w.heap.size ≤ gb214)); have n5_ := Aside0.mk ((Nat.le_trans HW0.out (by rw [hg]; exact (keep_size (w := w) (g := g) (row := none) (by repeat (first | (with_reducible first | exact HK.out | apply KeepBut.set_ | apply keep_drewN | apply keep_drew | apply keep_alloc) | exact HK.out))) : w.heap.size ≤ gb214) : w0.heap.size ≤ gb214)); have n6_ := Aside0.mk ((by rw [hg]; exact Nat.ne_of_lt (IsS74.lt (show IsS74 w0 _ g s0_0 s0_1 from by repeat (first | (with_reducible first | exact HI0.out | apply IsS74.alloc | apply IsS74.drewN | apply IsS74.drew | apply IsS74.set_1) | exact HI0.out))) : g ≠ gb214)); have n7_ := Aside0.mk ((by rw [hg]; exact Nat.ne_of_gt (IsS74.lt (show IsS74 w0 _ g s0_0 s0_1 from by repeat (first | (with_reducible first | exact HI0.out | apply IsS74.alloc | apply IsS74.drewN | apply IsS74.drew | apply IsS74.set_1) | exact HI0.out))) : gb214 ≠ g)); clear HI0; clear HK; clear HB; have HI0 := n0_; have HK := n1_; have HB := n2_; have BK214 := n3_; have GW214 := n4_; have GE214 := n5_; have NB0_214 := n6_; have NB214_0 := n7_; clear n0_ n1_ n2_ n3_ n4_ n5_ n6_ n7_; clear hb hbox hg) | ((with_reducible refine gate_callee (f := 39) rfl ?_); refine goesL_ (some 10) rfl rfl Try.func39 (by kernel_rfl) rfl #[.pointer (some ⟨g, 0, none⟩), .int .i64 4] rfl (by (try simp only [List.map_toArray, List.map_cons, List.map_nil]); first | done | rfl | (simp only [List.length_drop, List.length_take]; rfl)) ?_; (with_reducible refine (keyeventkit_Dice_Next.calls g s0_0 s0_1 4 t215 t216 w0 _ ?side1 ?side2 A2.out).mono ?_); (case side1 => repeat (first | (with_reducible first | exact HI0.out | apply IsS74.alloc | apply IsS74.drewN | apply IsS74.drew | apply IsS74.set_1 | refine IsS74.far ?_ NB0_214.out _) | exact HI0.out)); (case side2 => repeat (first | (with_reducible first | exact HB.out | apply below_alloc | apply pw_below_drewN | apply below_drew1 | refine below_set ?_ (IsS74.ge HI0.out) | refine below_set ?_ GE214.out) | exact HB.out)); rintro e w8 ⟨rfl, hi, hb, hk⟩; refine ⟨_, rfl, ?_⟩; have n0_ := Aside0.mk (KeepBut.blk hk (g' := gb214) (o := .cells #[.int .i64 0, .slice none 0 0] 25 (0, 0)) (by (with_reducible repeat (first | refine blk_drewN ?_ _ | refine blk_drew ?_ | refine blk_alloc ?_ _)); exact BK214.out) NB214_0.out (by simp)); have n1_ := Aside0.mk (KeepBut.trans (by repeat (first | (with_reducible first | exact HK.out | apply KeepBut.set_ | apply keep_drewN | apply keep_drew | apply keep_alloc | refine keep_far ?_ GW214.out _) | exact HK.out)) hk (.inl rfl)); have n2_ := Aside0.mk (hb); have n3_ := Aside0.mk (hi); clear BK214; clear HK; clear HB; clear HI0; have BK214 := n0_; have HK := n1_; have HB := n2_; have HI0 := n3_; clear n0_ n1_ n2_ n3_; (try clear hb); (try clear hb2); (try clear hk); (try clear hi)) | ((with_reducible refine gate_dst (N := 3) rfl ?_); refine box_event ?hg (N := 3) ?hd (cs := #[.int .i64 0, .slice none 0 0]) (t := 25) ?hr ?_; (case hd => rfl); (case hg => rfl); (case hr => first | (go_simp; done) | (go_simp; rfl)); intro gb217 hg w9 hbox hb; have n0_ := Aside0.mk (IsS74.below (by repeat (first | (with_reducible first | exact HI0.out | apply IsS74.alloc | apply IsS74.drewN | apply IsS74.drew | apply IsS74.set_1 | refine IsS74.far ?_ NB0_214.out _) | exact HI0.out)) hb); have n1_ := Aside0.mk (blk_below (g := gb214) (o := .cells #[.int .i64 0, .slice none 0 0] 25 (0, 0)) (by (with_reducible repeat (first | refine blk_drewN ?_ _ | refine blk_drew ?_ | refine blk_alloc ?_ _)); exact BK214.out) hb); have n2_ := Aside0.mk (KeepBut.trans (by repeat (first | (with_reducible first | exact HK.out | apply KeepBut.set_ | apply keep_drewN | apply keep_drew | apply keep_alloc | refine keep_far ?_ GW214.out _) | exact HK.out)) (KeepBut.of_below hb g none) (.inl rfl)); have n3_ := Aside0.mk (below_step (by repeat (first | (with_reducible first | exact HB.out | apply below_alloc | apply pw_below_drewN | apply below_drew1 | refine below_set ?_ (IsS74.ge HI0.out) | refine below_set ?_ GE214.out) | exact HB.out)) hb); have n4_ := Aside0.mk (hbox); have n5_ := Aside0.mk ((by rw [hg]; exact (keep_size (w := w) (g := g) (row := none) (by repeat (first | (with_reducible first | exact HK.out | apply KeepBut.set_ | apply keep_drewN | apply keep_drew | apply keep_alloc | refine keep_far ?_ GW214.out _) | exact HK.out))) : w.heap.size ≤ gb217)); have n6_ := Aside0.mk ((Nat.le_trans HW0.out (by rw [hg]; exact (keep_size (w := w) (g := g) (row := none) (by repeat (first | (with_reducible first | exact HK.out | apply KeepBut.set_ | apply keep_drewN | apply keep_drew | apply keep_alloc | refine keep_far ?_ GW214.out _) | exact HK.out))) : w.heap.size ≤ gb217) : w0.heap.size ≤ gb217)); have n7_ := Aside0.mk ((by rw [hg]; exact Nat.ne_of_lt (blk_lt (g := gb214) (o := .cells #[.int .i64 0, .slice none 0 0] 25 (0, 0)) (by (with_reducible repeat (first | refine blk_drewN ?_ _ | refine blk_drew ?_ | refine blk_alloc ?_ _)); exact BK214.out)) : gb214 ≠ gb217)); have n8_ := Aside0.mk ((by rw [hg]; exact Nat.ne_of_gt (blk_lt (g := gb214) (o := .cells #[.int .i64 0, .slice none 0 0] 25 (0, 0)) (by (with_reducible repeat (first | refine blk_drewN ?_ _ | refine blk_drew ?_ | refine blk_alloc ?_ _)); exact BK214.out)) : gb217 ≠ gb214)); have n9_ := Aside0.mk ((by rw [hg]; exact Nat.ne_of_lt (IsS74.lt (show IsS74 w0 _ g s0_0 t216 from by repeat (first | (with_reducible first | exact HI0.out | apply IsS74.alloc | apply IsS74.drewN | apply IsS74.drew | apply IsS74.set_1 | refine IsS74.far ?_ NB0_214.out _) | exact HI0.out))) : g ≠ gb217)); have n10_ := Aside0.mk ((by rw [hg]; exact Nat.ne_of_gt (IsS74.lt (show IsS74 w0 _ g s0_0 t216 from by repeat (first | (with_reducible first | exact HI0.out | apply IsS74.alloc | apply IsS74.drewN | apply IsS74.drew | apply IsS74.set_1 | refine IsS74.far ?_ NB0_214.out _) | exact HI0.out))) : gb217 ≠ g)); clear HI0; clear BK214; clear HK; clear HB; have HI0 := n0_; have BK214 := n1_; have HK := n2_; have HB := n3_; have BK217 := n4_; have GW217 := n5_; have GE217 := n6_; have NB214_217 := n7_; have NB217_214 := n8_; have NB0_217 := n9_; have NB217_0 := n10_; clear n0_ n1_ n2_ n3_ n4_ n5_ n6_ n7_ n8_ n9_ n10_; clear hb hbox hg; have hnb10 := NB217_214.out; have hnc10 := NB214_217.out; have hnb11 := NB217_0.out; have hnc11 := NB0_217.out; have hcz12_0 : w9.cell? ⟨gb217, 0, none⟩ = some (.int .i64 0) := (blk_cell BK217.out 0).trans rfl; have hcz12_1 : w9.cell? ⟨gb217, 1, none⟩ = some (.slice none 0 0) := (blk_cell BK217.out 1).trans rfl; have hfz12_0 := blk_frozen BK217.out 0; have hfz12_1 := blk_frozen BK217.out 1) | ((with_reducible refine gate_dst (N := 13) rfl ?_); refine Kd.R_lit (Kd.int .i64) _ 3 ?hg (N := 13) ?hd (xs := ([7] : List Int)) (inner := [.int .i64 7]) (ok := fun _ => True) (okp := fun _ => True) ?hr ?hp (fun _ hk => hk) trivial (Below.refl _ _) (Nat.le_refl _) (by simp) ?_; (case hd => rfl); (case hg => rfl); (case hr => first | (go_simp; done) | (go_simp; rfl)); (case hp => exact (Reps.one (show Kd.M (Kd.int .i64) _ _ _ 7 [.int .i64 7] from rfl) (Reps.none _ _))); intro v219 w13 ho14 hb hg_ hnew_; clear hg_ hnew_; (first | rw [← Ny218.out] at ho14 | (simp only [Int.reduceToNat] at ho14; rw [← Ny218.out] at ho14)); have n0_ := Aside0.mk (Kd.R_lower ho14 (keep_size (w := w) (g := g) (row := none) (by repeat (first | (with_reducible first | exact HK.out | apply KeepBut.set_ | apply keep_drewN | apply keep_drew | apply keep_alloc | refine keep_far ?_ GW214.out _ | refine keep_far ?_ GW217.out _) | exact HK.out)))); have n1_ := Aside0.mk (IsS74.below (show IsS74 w0 ((w9.setCell ⟨gb217, 0, none⟩ (.int .i64 ji3)).setCell ⟨gb217, 1, none⟩ (.slice none 0 0)) g s0_0 t216 from by repeat (first | (with_reducible first | exact HI0.out | apply IsS74.alloc | apply IsS74.drewN | apply IsS74.drew | apply IsS74.set_1 | refine IsS74.far ?_ NB0_214.out _ | refine IsS74.far ?_ NB0_217.out _) | exact HI0.out)) hb); have n2_ := Aside0.mk (blk_below (g := gb214) (o := .cells #[.int .i64 0, .slice none 0 0] 25 (0, 0)) (by (with_reducible repeat (first | refine blk_drewN ?_ _ | refine blk_drew ?_ | refine blk_alloc ?_ _)); refine blk_far ?_ NB214_217.out _; (with_reducible repeat (first | refine blk_drewN ?_ _ | refine blk_drew ?_ | refine blk_alloc ?_ _)); refine blk_far ?_ NB214_217.out _; (with_reducible repeat (first | refine blk_drewN ?_ _ | refine blk_drew ?_ | refine blk_alloc ?_ _)); exact BK214.out) hb); have n3_ := Aside0.mk (blk_below (g := gb217) (o := .cells #[.int .i64 ji3, .slice none 0 0] 25 (0, 0)) (by (with_reducible repeat (first | refine blk_drewN ?_ _ | refine blk_drew ?_ | refine blk_alloc ?_ _)); refine blk_put (cs := #[.int .i64 ji3, .slice none 0 0]) ?_ 1 _ rfl; (with_reducible repeat (first | refine blk_drewN ?_ _ | refine blk_drew ?_ | refine blk_alloc ?_ _)); refine blk_put (cs := #[.int .i64 0, .slice none 0 0]) ?_ 0 _ rfl; (with_reducible repeat (first | refine blk_drewN ?_ _ | refine blk_drew ?_ | refine blk_alloc ?_ _)); exact BK217.out) hb); have n4_ := Aside0.mk (KeepBut.trans (by repeat (first | (with_reducible first | exact HK.out | apply KeepBut.set_ | apply keep_drewN | apply keep_drew | apply keep_alloc | refine keep_far ?_ GW214.out _ | refine keep_far ?_ GW217.out _) | exact HK.out)) (KeepBut.of_below hb g none) (.inl rfl)); have n5_ := Aside0.mk (below_step (by repeat (first | (with_reducible first | exact HB.out | apply below_alloc | apply pw_below_drewN | apply below_drew1 | refine below_set ?_ (IsS74.ge HI0.out) | refine below_set ?_ GE214.out | refine below_set ?_ GE217.out) | exact HB.out)) hb); clear HI0; clear BK214; clear BK217; clear HK; clear HB; have HO220 := n0_; have HI0 := n1_; have BK214 := n2_; have BK217 := n3_; have HK := n4_; have HB := n5_; clear n0_ n1_ n2_ n3_ n4_ n5_; clear hb ho14) | ((with_reducible refine gate_dst (N := 14) rfl ?_); refine Kd.R_lit (Kd.int .i64) _ 3 ?hg (N := 14) ?hd (xs := ([7] : List Int)) (inner := [.int .i64 7]) (ok := fun _ => True) (okp := fun _ => True) ?hr ?hp (fun _ hk => hk) trivial (Below.refl _ _) (Nat.le_refl _) (by simp) ?_; (case hd => rfl); (case hg => rfl); (case hr => first | (go_simp; done) | (go_simp; rfl)); (case hp => exact (Reps.one (show Kd.M (Kd.int .i64) _ _ _ 7 [.int .i64 7] from rfl) (Reps.none _ _))); intro v222 w15 ho16 hb hg_ hnew_; clear hg_ hnew_; (first | rw [← Ny221.out] at ho16 | (simp only [Int.reduceToNat] at ho16; rw [← Ny221.out] at ho16)); have n0_ := Aside0.mk (Kd.R_elder' (by (with_reducible repeat (first | apply Kd.R_alloc | apply Kd.R_drewN | apply Kd.R_drew)); exact HO220.out) (Kd.R_base ho16) hb); have n1_ := Aside0.mk (Kd.R_lower (Kd.R_new' ho16 (Kd.R_lt (by (with_reducible repeat (first | apply Kd.R_alloc | apply Kd.R_drewN | apply Kd.R_drew)); exact HO220.out))) (keep_size (w := w) (g := g) (row := none) (by repeat (first | (with_reducible first | exact HK.out | apply KeepBut.set_ | apply keep_drewN | apply keep_drew | apply keep_alloc | refine keep_far ?_ GW214.out _ | refine keep_far ?_ GW217.out _) | exact HK.out)))); have n2_ := Aside0.mk (IsS74.below (by repeat (first | (with_reducible first | exact HI0.out | apply IsS74.alloc | apply IsS74.drewN | apply IsS74.drew | apply IsS74.set_1 | refine IsS74.far ?_ NB0_214.out _ | refine IsS74.far ?_ NB0_217.out _) | exact HI0.out)) hb); have n3_ := Aside0.mk (blk_below (g := gb214) (o := .cells #[.int .i64 0, .slice none 0 0] 25 (0, 0)) (by (with_reducible repeat (first | refine blk_drewN ?_ _ | refine blk_drew ?_ | refine blk_alloc ?_ _)); exact BK214.out) hb); have n4_ := Aside0.mk (blk_below (g := gb217) (o := .cells #[.int .i64 ji3, .slice none 0 0] 25 (0, 0)) (by (with_reducible repeat (first | refine blk_drewN ?_ _ | refine blk_drew ?_ | refine blk_alloc ?_ _)); exact BK217.out) hb); have n5_ := Aside0.mk (KeepBut.trans (by repeat (first | (with_reducible first | exact HK.out | apply KeepBut.set_ | apply keep_drewN | apply keep_drew | apply keep_alloc | refine keep_far ?_ GW214.out _ | refine keep_far ?_ GW217.out _) | exact HK.out)) (KeepBut.of_below hb g none) (.inl rfl)); have n6_ := Aside0.mk (below_step (by repeat (first | (with_reducible first | exact HB.out | apply below_alloc | apply pw_below_drewN | apply below_drew1 | refine below_set ?_ (IsS74.ge HI0.out) | refine below_set ?_ GE214.out | refine below_set ?_ GE217.out) | exact HB.out)) hb); clear HO220; clear HI0; clear BK214; clear BK217; clear HK; clear HB; have HO220 := n0_; have HO223 := n1_; have HI0 := n2_; have BK214 := n3_; have BK217 := n4_; have HK := n5_; have HB := n6_; clear n0_ n1_ n2_ n3_ n4_ n5_ n6_; clear hb ho16) | ((with_reducible refine gate_dst (N := 15) rfl ?_); refine Kd.R_lit (Kd.int .i64) _ 3 ?hg (N := 15) ?hd (xs := ([3, 7] : List Int)) (inner := [.int .i64 3, .int .i64 7]) (ok := fun _ => True) (okp := fun _ => True) ?hr ?hp (fun _ hk => hk) trivial (Below.refl _ _) (Nat.le_refl _) (by simp) ?_; (case hd => rfl); (case hg => rfl); (case hr => first | (go_simp; done) | (go_simp; rfl)); (case hp => exact (Reps.one (show Kd.M (Kd.int .i64) _ _ _ 3 [.int .i64 3] from rfl) (Reps.one (show Kd.M (Kd.int .i64) _ _ _ 7 [.int .i64 7] from rfl) (Reps.none _ _)))); intro v225 w17 ho18 hb hg_ hnew_; clear hg_ hnew_; (first | rw [← Ny224.out] at ho18 | (simp only [Int.reduceToNat] at ho18; rw [← Ny224.out] at ho18)); have n0_ := Aside0.mk (Kd.R_elder' (by (with_reducible repeat (first | apply Kd.R_alloc | apply Kd.R_drewN | apply Kd.R_drew)); exact HO220.out) (Kd.R_base ho18) hb); have n1_ := Aside0.mk (Kd.R_elder' (by (with_reducible repeat (first | apply Kd.R_alloc | apply Kd.R_drewN | apply Kd.R_drew)); exact HO223.out) (Kd.R_base ho18) hb); have n2_ := Aside0.mk (Kd.R_lower (Kd.R_new' (Kd.R_new' ho18 (Kd.R_lt (by (with_reducible repeat (first | apply Kd.R_alloc | apply Kd.R_drewN | apply Kd.R_drew)); exact HO220.out))) (Kd.R_lt (by (with_reducible repeat (first | apply Kd.R_alloc | apply Kd.R_drewN | apply Kd.R_drew)); exact HO223.out))) (keep_size (w := w) (g := g) (row := none) (by repeat (first | (with_reducible first | exact HK.out | apply KeepBut.set_ | apply keep_drewN | apply keep_drew | apply keep_alloc | refine keep_far ?_ GW214.out _ | refine keep_far ?_ GW217.out _) | exact HK.out)))); have n3_ := Aside0.mk (IsS74.below (by repeat (first | (with_reducible first | exact HI0.out | apply IsS74.alloc | apply IsS74.drewN | apply IsS74.drew | apply IsS74.set_1 | refine IsS74.far ?_ NB0_214.out _ | refine IsS74.far ?_ NB0_217.out _) | exact HI0.out)) hb); have n4_ := Aside0.mk (blk_below (g := gb214) (o := .cells #[.int .i64 0, .slice none 0 0] 25 (0, 0)) (by (with_reducible repeat (first | refine blk_drewN ?_ _ | refine blk_drew ?_ | refine blk_alloc ?_ _)); exact BK214.out) hb); have n5_ := Aside0.mk (blk_below (g := gb217) (o := .cells #[.int .i64 ji3, .slice none 0 0] 25 (0, 0)) (by (with_reducible repeat (first | refine blk_drewN ?_ _ | refine blk_drew ?_ | refine blk_alloc ?_ _)); exact BK217.out) hb); have n6_ := Aside0.mk (KeepBut.trans (by repeat (first | (with_reducible first | exact HK.out | apply KeepBut.set_ | apply keep_drewN | apply keep_drew | apply keep_alloc | refine keep_far ?_ GW214.out _ | refine keep_far ?_ GW217.out _) | exact HK.out)) (KeepBut.of_below hb g none) (.inl rfl)); have n7_ := Aside0.mk (below_step (by repeat (first | (with_reducible first | exact HB.out | apply below_alloc | apply pw_below_drewN | apply below_drew1 | refine below_set ?_ (IsS74.ge HI0.out) | refine below_set ?_ GE214.out | refine below_set ?_ GE217.out) | exact HB.out)) hb); clear HO220; clear HO223; clear HI0; clear BK214; clear BK217; clear HK; clear HB; have HO220 := n0_; have HO223 := n1_; have HO226 := n2_; have HI0 := n3_; have BK214 := n4_; have BK217 := n5_; have HK := n6_; have HB := n7_; clear n0_ n1_ n2_ n3_ n4_ n5_ n6_ n7_; clear hb ho18) | ((with_reducible refine gate_dst (N := 16) rfl ?_); refine Kd.R_lit (Kd.int .i64) _ 3 ?hg (N := 16) ?hd (xs := ([8, 1] : List Int)) (inner := [.int .i64 8, .int .i64 1]) (ok := fun _ => True) (okp := fun _ => True) ?hr ?hp (fun _ hk => hk) trivial (Below.refl _ _) (Nat.le_refl _) (by simp) ?_; (case hd => rfl); (case hg => rfl); (case hr => first | (go_simp; done) | (go_simp; rfl)); (case hp => exact (Reps.one (show Kd.M (Kd.int .i64) _ _ _ 8 [.int .i64 8] from rfl) (Reps.one (show Kd.M (Kd.int .i64) _ _ _ 1 [.int .i64 1] from rfl) (Reps.none _ _)))); intro v228 w19 ho20 hb hg_ hnew_; clear hg_ hnew_; (first | rw [← Ny227.out] at ho20 | (simp only [Int.reduceToNat] at ho20; rw [← Ny227.out] at ho20)); have n0_ := Aside0.mk (Kd.R_elder' (by (with_reducible repeat (first | apply Kd.R_alloc | apply Kd.R_drewN | apply Kd.R_drew)); exact HO220.out) (Kd.R_base ho20) hb); have n1_ := Aside0.mk (Kd.R_elder' (by (with_reducible repeat (first | apply Kd.R_alloc | apply Kd.R_drewN | apply Kd.R_drew)); exact HO223.out) (Kd.R_base ho20) hb); have n2_ := Aside0.mk (Kd.R_elder' (by (with_reducible repeat (first | apply Kd.R_alloc | apply Kd.R_drewN | apply Kd.R_drew)); exact HO226.out) (Kd.R_base ho20) hb); have n3_ := Aside0.mk (Kd.R_lower (Kd.R_new' (Kd.R_new' (Kd.R_new' ho20 (Kd.R_lt (by (with_reducible repeat (first | apply Kd.R_alloc | apply Kd.R_drewN | apply Kd.R_drew)); exact HO220.out))) (Kd.R_lt (by (with_reducible repeat (first | apply Kd.R_alloc | apply Kd.R_drewN | apply Kd.R_drew)); exact HO223.out))) (Kd.R_lt (by (with_reducible repeat (first | apply Kd.R_alloc | apply Kd.R_drewN | apply Kd.R_drew)); exact HO226.out))) (keep_size (w := w) (g := g) (row := none) (by repeat (first | (with_reducible first | exact HK.out | apply KeepBut.set_ | apply keep_drewN | apply keep_drew | apply keep_alloc | refine keep_far ?_ GW214.out _ | refine keep_far ?_ GW217.out _) | exact HK.out)))); have n4_ := Aside0.mk (IsS74.below (by repeat (first | (with_reducible first | exact HI0.out | apply IsS74.alloc | apply IsS74.drewN | apply IsS74.drew | apply IsS74.set_1 | refine IsS74.far ?_ NB0_214.out _ | refine IsS74.far ?_ NB0_217.out _) | exact HI0.out)) hb); have n5_ := Aside0.mk (blk_below (g := gb214) (o := .cells #[.int .i64 0, .slice none 0 0] 25 (0, 0)) (by (with_reducible repeat (first | refine blk_drewN ?_ _ | refine blk_drew ?_ | refine blk_alloc ?_ _)); exact BK214.out) hb); have n6_ := Aside0.mk (blk_below (g := gb217) (o := .cells #[.int .i64 ji3, .slice none 0 0] 25 (0, 0)) (by (with_reducible repeat (first | refine blk_drewN ?_ _ | refine blk_drew ?_ | refine blk_alloc ?_ _)); exact BK217.out) hb); have n7_ := Aside0.mk (KeepBut.trans (by repeat (first | (with_reducible first | exact HK.out | apply KeepBut.set_ | apply keep_drewN | apply keep_drew | apply keep_alloc | refine keep_far ?_ GW214.out _ | refine keep_far ?_ GW217.out _) | exact HK.out)) (KeepBut.of_below hb g none) (.inl rfl)); have n8_ := Aside0.mk (below_step (by repeat (first | (with_reducible first | exact HB.out | apply below_alloc | apply pw_below_drewN | apply below_drew1 | refine below_set ?_ (IsS74.ge HI0.out) | refine below_set ?_ GE214.out | refine below_set ?_ GE217.out) | exact HB.out)) hb); clear HO220; clear HO223; clear HO226; clear HI0; clear BK214; clear BK217; clear HK; clear HB; have HO220 := n0_; have HO223 := n1_; have HO226 := n2_; have HO229 := n3_; have HI0 := n4_; have BK214 := n5_; have BK217 := n6_; have HK := n7_; have HB := n8_; clear n0_ n1_ n2_ n3_ n4_ n5_ n6_ n7_ n8_; clear hb ho20; obtain ⟨Ao21, co21, eo21⟩ := Kd.R_slice HO220.out; subst eo21; obtain ⟨Ao22, co22, eo22⟩ := Kd.R_slice HO223.out; subst eo22; obtain ⟨Ao23, co23, eo23⟩ := Kd.R_slice HO226.out; subst eo23; obtain ⟨Ao24, co24, eo24⟩ := Kd.R_slice HO229.out; subst eo24) | ((with_reducible refine gate_dst (N := 17) rfl ?_); refine Kd.N_lit (Kd.slice 3 (Kd.int .i64)) _ 37 ?hg (N' := 17) ?hd (xs := ([[], y218, y221, y224, y227] : List (List Int))) (inner := [.slice none 0 0, .slice Ao21 y218.length co21, .slice Ao22 y221.length co22, .slice Ao23 y224.length co23, .slice Ao24 y227.length co24]) (ok := (fun k_ => k_ ≠ gb214 ∧ k_ ≠ gb217 ∧ k_ ≠ g)) (okp := (fun k_ => k_ ≠ gb214 ∧ k_ ≠ gb217 ∧ k_ ≠ g)) ?hr ?hp (fun _ hk => hk) ((show ∀ k_, w19.heap.size ≤ k_ → (fun k_ => k_ ≠ gb214 ∧ k_ ≠ gb217 ∧ k_ ≠ g) k_ from fun k_ hk => ⟨Kd.freshB (g := gb214) (o := .cells #[.int .i64 0, .slice none 0 0] 25 (0, 0)) (by (with_reducible repeat (first | refine blk_drewN ?_ _ | refine blk_drew ?_ | refine blk_alloc ?_ _)); exact BK214.out) k_ hk, Kd.freshB (g := gb217) (o := .cells #[.int .i64 ji3, .slice none 0 0] 25 (0, 0)) (by (with_reducible repeat (first | refine blk_drewN ?_ _ | refine blk_drew ?_ | refine blk_alloc ?_ _)); exact BK217.out) k_ hk, IsS74.fresh (by repeat (first | (with_reducible first | exact HI0.out | apply IsS74.alloc | apply IsS74.drewN | apply IsS74.drew | apply IsS74.set_1 | refine IsS74.far ?_ NB0_214.out _ | refine IsS74.far ?_ NB0_217.out _) | exact HI0.out)) k_ hk⟩) _ (Nat.le_refl _)) (Below.refl _ _) (Nat.le_refl _) (by simp) ?_; (case hd => rfl); (case hg => rfl); (case hr => first | (go_simp; done) | (go_simp; rfl)); (case hp => exact (Reps.one (show Kd.FK (Kd.slice 3 (Kd.int .i64)) _ _ [] [.slice none 0 0] from (Kd.FK_slice_mk (Nat.le_refl _) (Kd.F_nil _ _ _))) (Reps.one (show Kd.FK (Kd.slice 3 (Kd.int .i64)) _ _ y218 [.slice Ao21 y218.length co21] from (Kd.FK_slice_mk (Kd.R_reads' (Kd.R_mono (ok' := (fun k_ => k_ ≠ gb214 ∧ k_ ≠ gb217 ∧ k_ ≠ g)) (IsS74.apart HI0.out (Kd.R_types (Kd.R_types (HO220.out) BK214.out (by decide)) BK217.out (by decide)) (by decide)) (fun k_ hk => ⟨hk.1.1.2, ⟨hk.1.2, hk.2⟩⟩))).2.1 (Kd.R_F (Kd.R_mono (ok' := (fun k_ => k_ ≠ gb214 ∧ k_ ≠ gb217 ∧ k_ ≠ g)) (IsS74.apart HI0.out (Kd.R_types (Kd.R_types (HO220.out) BK214.out (by decide)) BK217.out (by decide)) (by decide)) (fun k_ hk => ⟨hk.1.1.2, ⟨hk.1.2, hk.2⟩⟩))))) (Reps.one (show Kd.FK (Kd.slice 3 (Kd.int .i64)) _ _ y221 [.slice Ao22 y221.length co22] from (Kd.FK_slice_mk (Kd.R_reads' (Kd.R_mono (ok' := (fun k_ => k_ ≠ gb214 ∧ k_ ≠ gb217 ∧ k_ ≠ g)) (IsS74.apart HI0.out (Kd.R_types (Kd.R_types (HO223.out) BK214.out (by decide)) BK217.out (by decide)) (by decide)) (fun k_ hk => ⟨hk.1.1.2, ⟨hk.1.2, hk.2⟩⟩))).2.1 (Kd.R_F (Kd.R_mono (ok' := (fun k_ => k_ ≠ gb214 ∧ k_ ≠ gb217 ∧ k_ ≠ g)) (IsS74.apart HI0.out (Kd.R_types (Kd.R_types (HO223.out) BK214.out (by decide)) BK217.out (by decide)) (by decide)) (fun k_ hk => ⟨hk.1.1.2, ⟨hk.1.2, hk.2⟩⟩))))) (Reps.one (show Kd.FK (Kd.slice 3 (Kd.int .i64)) _ _ y224 [.slice Ao23 y224.length co23] from (Kd.FK_slice_mk (Kd.R_reads' (Kd.R_mono (ok' := (fun k_ => k_ ≠ gb214 ∧ k_ ≠ gb217 ∧ k_ ≠ g)) (IsS74.apart HI0.out (Kd.R_types (Kd.R_types (HO226.out) BK214.out (by decide)) BK217.out (by decide)) (by decide)) (fun k_ hk => ⟨hk.1.1.2, ⟨hk.1.2, hk.2⟩⟩))).2.1 (Kd.R_F (Kd.R_mono (ok' := (fun k_ => k_ ≠ gb214 ∧ k_ ≠ gb217 ∧ k_ ≠ g)) (IsS74.apart HI0.out (Kd.R_types (Kd.R_types (HO226.out) BK214.out (by decide)) BK217.out (by decide)) (by decide)) (fun k_ hk => ⟨hk.1.1.2, ⟨hk.1.2, hk.2⟩⟩))))) (Reps.one (show Kd.FK (Kd.slice 3 (Kd.int .i64)) _ _ y227 [.slice Ao24 y227.length co24] from (Kd.FK_slice_mk (Kd.R_reads' (Kd.R_mono (ok' := (fun k_ => k_ ≠ gb214 ∧ k_ ≠ gb217 ∧ k_ ≠ g)) (IsS74.apart HI0.out (Kd.R_types (Kd.R_types (HO229.out) BK214.out (by decide)) BK217.out (by decide)) (by decide)) (fun k_ hk => ⟨hk.1.1.2, ⟨hk.1.2, hk.2⟩⟩))).2.1 (Kd.R_F (Kd.R_mono (ok' := (fun k_ => k_ ≠ gb214 ∧ k_ ≠ gb217 ∧ k_ ≠ g)) (IsS74.apart HI0.out (Kd.R_types (Kd.R_types (HO229.out) BK214.out (by decide)) BK217.out (by decide)) (by decide)) (fun k_ hk => ⟨hk.1.1.2, ⟨hk.1.2, hk.2⟩⟩))))) (Reps.none _ _))))))); intro v231 w25 ho26 hb hg_ hnew_; clear hg_ hnew_; (first | rw [← Ny230.out] at ho26 | (simp only [Int.reduceToNat] at ho26; rw [← Ny230.out] at ho26)); have n0_ := Aside0.mk (Kd.N_lower ho26 (keep_size (w := w) (g := g) (row := none) (by repeat (first | (with_reducible first | exact HK.out | apply KeepBut.set_ | apply keep_drewN | apply keep_drew | apply keep_alloc | refine keep_far ?_ GW214.out _ | refine keep_far ?_ GW217.out _) | exact HK.out)))); have n1_ := Aside0.mk (IsS74.below (by repeat (first | (with_reducible first | exact HI0.out | apply IsS74.alloc | apply IsS74.drewN | apply IsS74.drew | apply IsS74.set_1 | refine IsS74.far ?_ NB0_214.out _ | refine IsS74.far ?_ NB0_217.out _) | exact HI0.out)) hb); have n2_ := Aside0.mk (blk_below (g := gb214) (o := .cells #[.int .i64 0, .slice none 0 0] 25 (0, 0)) (by (with_reducible repeat (first | refine blk_drewN ?_ _ | refine blk_drew ?_ | refine blk_alloc ?_ _)); exact BK214.out) hb); have n3_ := Aside0.mk (blk_below (g := gb217) (o := .cells #[.int .i64 ji3, .slice none 0 0] 25 (0, 0)) (by (with_reducible repeat (first | refine blk_drewN ?_ _ | refine blk_drew ?_ | refine blk_alloc ?_ _)); exact BK217.out) hb); have n4_ := Aside0.mk (KeepBut.trans (by repeat (first | (with_reducible first | exact HK.out | apply KeepBut.set_ | apply keep_drewN | apply keep_drew | apply keep_alloc | refine keep_far ?_ GW214.out _ | refine keep_far ?_ GW217.out _) | exact HK.out)) (KeepBut.of_below hb g none) (.inl rfl)); have n5_ := Aside0.mk (below_step (by repeat (first | (with_reducible first | exact HB.out | apply below_alloc | apply pw_below_drewN | apply below_drew1 | refine below_set ?_ (IsS74.ge HI0.out) | refine below_set ?_ GE214.out | refine below_set ?_ GE217.out) | exact HB.out)) hb); clear HI0; clear BK214; clear BK217; clear HK; clear HB; clear HO220; clear HO223; clear HO226; clear HO229; have HO232 := n0_; have HI0 := n1_; have BK214 := n2_; have BK217 := n3_; have HK := n4_; have HB := n5_; clear n0_ n1_ n2_ n3_ n4_ n5_; clear hb ho26; have hcz27_0 : w25.cell? ⟨gb217, 0, none⟩ = some (.int .i64 ji3) := (blk_cell BK217.out 0).trans rfl; have hcz27_1 : w25.cell? ⟨gb217, 1, none⟩ = some (.slice none 0 0) := (blk_cell BK217.out 1).trans rfl; have hfz27_0 := blk_frozen BK217.out 0; have hfz27_1 := blk_frozen BK217.out 1; obtain ⟨Ao28, co28, eo28⟩ := Kd.N_slice HO232.out; subst eo28; have p233 : 0 ≤ ((ji3) : Int) := of_decide_eq_true (by first | (with_reducible assumption) | assumption); have q233 : (ji3) < (y230.length : Int) := of_decide_eq_true (by first | (with_reducible assumption) | assumption); obtain ⟨ad233, A233_0, c233_0, e233, hx233_0, hl233_0, hi233_0⟩ := at_L1 (Kd.N_reads' HO232.out).2.2 (ji3) p233 q233; cases e233; obtain ⟨ce233, hce233, hMe233, hcc233⟩ := Kd.N_get HO232.out [] (ji3) p233 (by first | exact q233 | exact of_decide_eq_true (by first | (with_reducible assumption) | assumption) | (have e_ := (Kd.N_reads' HO232.out).1; omega)); obtain ⟨ua233_0, uc233_0, rfl, ul233_0, ge233_0⟩ := Kd.FK_slice_open hMe233; have hv233_0 := hcc233 0 _ rfl; rw [Nat.add_zero, show ((Kd.slice 3 (Kd.int .i64))).sz = 1 from rfl, Nat.mul_one] at hv233_0; replace hv233_0 := Option.some.inj (hv233_0.symm.trans hx233_0); injection hv233_0 with hva_ hvn_ hvc_; rw [hva_] at ge233_0; rw [hvc_] at ul233_0; have HL233_0 := Aside0.mk (show Kd.V (Kd.int .i64) 3 _ w.heap.size _ _ (rd_L1 y230 (ji3)) from Kd.V_mk ul233_0 ge233_0); clear hva_ hvn_ hvc_ ge233_0 ul233_0; clear hcc233 hce233; have HR233_0 := Aside0.mk hi233_0; have HC233_0 := Aside0.mk hl233_0; clear hi233_0 hl233_0; replace p233 := eq_true p233; replace q233 := eq_true q233; have n0_ := Aside0.mk (Kd.V_mono HL233_0.out (fun _ hk_ => hk_.1)); clear HL233_0; have HL233_0 := n0_; clear n0_; (try clear HO232)) | ((with_reducible refine gate_callee (f := 39) rfl ?_); refine goesL_ (some 23) rfl rfl Try.func39 (by kernel_rfl) rfl #[.pointer (some ⟨g, 0, none⟩), .int .i64 3] rfl (by (try simp only [List.map_toArray, List.map_cons, List.map_nil]); first | done | rfl | (simp only [List.length_drop, List.length_take]; rfl)) ?_; (with_reducible refine (keyeventkit_Dice_Next.calls g s0_0 t216 3 t234 t235 w0 _ ?side1 ?side2 A6.out).mono ?_); (case side1 => repeat (first | (with_reducible first | exact HI0.out | apply IsS74.alloc | apply IsS74.drewN | apply IsS74.drew | apply IsS74.set_1 | refine IsS74.far ?_ NB0_214.out _ | refine IsS74.far ?_ NB0_217.out _) | exact HI0.out)); (case side2 => repeat (first | (with_reducible first | exact HB.out | apply below_alloc | apply pw_below_drewN | apply below_drew1 | refine below_set ?_ (IsS74.ge HI0.out) | refine below_set ?_ GE214.out | refine below_set ?_ GE217.out) | exact HB.out)); rintro e w29 ⟨rfl, hi, hb, hk⟩; refine ⟨_, rfl, ?_⟩; have n0_ := Aside0.mk (KeepBut.blk hk (g' := gb214) (o := .cells #[.int .i64 0, .slice none 0 0] 25 (0, 0)) (by (with_reducible repeat (first | refine blk_drewN ?_ _ | refine blk_drew ?_ | refine blk_alloc ?_ _)); exact BK214.out) NB214_0.out (by simp)); have n1_ := Aside0.mk (KeepBut.blk hk (g' := gb217) (o := .cells #[.int .i64 ji3, .slice none 0 0] 25 (0, 0)) (by (with_reducible repeat (first | refine blk_drewN ?_ _ | refine blk_drew ?_ | refine blk_alloc ?_ _)); exact BK217.out) NB217_0.out (by simp)); have n2_ := Aside0.mk (Kd.V_mono (Kd.V_keep (Kd.V_mono (ok := fun k_ => (k_ ≠ gb214 ∧ (k_ ≠ gb217 ∧ k_ ≠ g))) (by (with_reducible repeat (first | apply Kd.V_alloc | apply Kd.V_drewN | apply Kd.V_drew)); exact HL233_0.out) (fun k_ hk_ => (⟨hk_, hk_.2.2⟩ : _ ∧ k_ ≠ g))) hk (fun _ h => h.2)) (fun _ h => h.1)); have n3_ := Aside0.mk (KeepBut.trans (by repeat (first | (with_reducible first | exact HK.out | apply KeepBut.set_ | apply keep_drewN | apply keep_drew | apply keep_alloc | refine keep_far ?_ GW214.out _ | refine keep_far ?_ GW217.out _) | exact HK.out)) hk (.inl rfl)); have n4_ := Aside0.mk (hb); have n5_ := Aside0.mk (hi); clear BK214; clear BK217; clear HL233_0; clear HK; clear HB; clear HI0; have BK214 := n0_; have BK217 := n1_; have HL233_0 := n2_; have HK := n3_; have HB := n4_; have HI0 := n5_; clear n0_ n1_ n2_ n3_ n4_ n5_; (try clear hb); (try clear hb2); (try clear hk); (try clear hi)))
   go_loopg [5] k (fun kq v5 w' => ∃ (x5_1 : Int) (x1001_1 : Int) (x218001_1 : List (S27)) (u218001 : Value), v5 = .int .i64 x5_1 ∧ Aside0 (keyeventkit_Group.l0 kq (rd_L1 y230 (ji3)) x5_1 s0_0 x1001_1 ji3 x218001_1 = some (r1, r2, r3)) ∧ Aside0 (kq ≤ k) ∧ Aside0 (Kd.V (Kd.int .i64) 3 w' w.heap.size (fun k_ => some k_ ≠ (u218001 : Value).ownBlock ∧ k_ ≠ gb214 ∧ k_ ≠ gb217 ∧ k_ ≠ g) (.slice A233_0 (rd_L1 y230 (ji3)).length c233_0) (rd_L1 y230 (ji3))) ∧ Aside0 (Kd.R k27 27 w' w.heap.size (fun _ => True) u218001 x218001_1) ∧ Aside0 (w'.heap[gb214]? = some (.cells #[.int .i64 0, (.slice none 0 0)] 25 (0, 0))) ∧ Aside0 (w'.heap[gb217]? = some (.cells #[.int .i64 ji3, u218001] 25 (0, 0))) ∧ Aside0 (IsS74 w0 w' g s0_0 x1001_1) ∧ Aside0 (KeepBut w w' g none) ∧ Aside0 (Below w0.heap.size w0 w'))
   case atStart => exact ⟨(t234), (t235), (([] : List (S27))), (.slice none 0 0), (by first | rfl | (simp; done) | (simp [*]; done)), H', ⟨Nat.le_refl _⟩, ⟨by (with_reducible repeat (first | apply Kd.V_alloc | apply Kd.V_drewN | apply Kd.V_drew)); exact Kd.V_mono HL233_0.out (fun _ hk => ⟨(by simp [Value.ownBlock]), ⟨hk.1, ⟨hk.2.1, hk.2.2⟩⟩⟩)⟩, ⟨by first | exact Kd.R_nil _ _ _ _ _ | exact Kd.N_nil _ _ _ _ _ | exact Kd.V_nil _ _ _ _ _ | exact Kd.Q_nil _ _ _ _ _ | exact Kd.S_nil _ _ _ _ _⟩, ⟨by (with_reducible repeat (first | refine blk_drewN ?_ _ | refine blk_drew ?_ | refine blk_alloc ?_ _)); exact BK214.out⟩, ⟨by (with_reducible repeat (first | refine blk_drewN ?_ _ | refine blk_drew ?_ | refine blk_alloc ?_ _)); exact BK217.out⟩, ⟨by repeat (first | (with_reducible first | exact HI0.out | apply IsS74.alloc | apply IsS74.drewN | apply IsS74.drew | apply IsS74.set_1 | refine IsS74.far ?_ NB0_214.out _ | refine IsS74.far ?_ NB0_217.out _) | exact HI0.out)⟩, ⟨by repeat (first | (with_reducible first | exact HK.out | apply KeepBut.set_ | apply keep_drewN | apply keep_drew | apply keep_alloc | refine keep_far ?_ GW214.out _ | refine keep_far ?_ GW217.out _) | exact HK.out)⟩, ⟨by repeat (first | (with_reducible first | exact HB.out | apply below_alloc | apply pw_below_drewN | apply below_drew1 | refine below_set ?_ (IsS74.ge HI0.out) | refine below_set ?_ GE214.out | refine below_set ?_ GE217.out) | exact HB.out)⟩⟩
   case round =>
    clear H'
    try clear c1
    try clear c2
    try clear p2
    try clear q2
    try clear hx2
    try clear c3
    try clear c4
    try clear c4b0
    try clear c5
    try clear c5b0
    try clear p6
    try clear c10
    try clear c11
    try clear c15
    try clear c23
    try clear p23
    try clear q23
    try clear hx23
    try clear hcz12_0
    try clear hcz12_1
    try clear hcz27_0
    try clear hcz27_1
    try clear hfz12_0
    try clear hfz12_1
    try clear hfz27_0
    try clear hfz27_1
    try clear hx233_0
    try clear p233
    try clear q233
    obtain ⟨x5_1, x1001_1, x218001_1, u218001, rfl, HA, HK1, HO_4, HO_218001, BK214, BK217, HI0, HK, HB⟩ := hrel
    cases gk with
    | zero => exact absurd HA.out (by simp [keyeventkit_Group.l0])
    | succ k1 =>
     have H := HA.out
     clear HA
     simp only [keyeventkit_Group.l0] at H
     by_cases c30 : x5_1 > 0
     ·rw [if_pos c30] at H
      have c30b0 : decide (0 < x5_1) = true := decide_eq_true c30
      clear c30
      have H' := Aside0.mk H
      clear H
      go_wp2
      go_loopg [30] k1 (fun kq v30 w' => ∃ (x30_2 : Int) (x1001_2 : Int) (x218001_2 : List (S27)) (u218001 : Value), v30 = .int .i64 x30_2 ∧ Aside0 (keyeventkit_Group.l1 kq (rd_L1 y230 (ji3)) x5_1 (rd_L1 y230 (ji3)) ((rd_L1 y230 (ji3)).length : Int) x30_2 s0_0 x1001_2 ji3 x218001_2 = some (r1, r2, r3)) ∧ Aside0 (kq ≤ k1) ∧ Aside0 (Kd.V (Kd.int .i64) 3 w' w.heap.size (fun k_ => some k_ ≠ (u218001 : Value).ownBlock ∧ k_ ≠ gb214 ∧ k_ ≠ gb217 ∧ k_ ≠ g) (.slice A233_0 (rd_L1 y230 (ji3)).length c233_0) (rd_L1 y230 (ji3))) ∧ Aside0 (Kd.V (Kd.int .i64) 3 w' w.heap.size (fun k_ => some k_ ≠ (u218001 : Value).ownBlock ∧ k_ ≠ gb214 ∧ k_ ≠ gb217 ∧ k_ ≠ g) (.slice A233_0 (rd_L1 y230 (ji3)).length c233_0) (rd_L1 y230 (ji3))) ∧ Aside0 (Kd.R k27 27 w' w.heap.size (fun _ => True) u218001 x218001_2) ∧ Aside0 (w'.heap[gb214]? = some (.cells #[.int .i64 0, (.slice none 0 0)] 25 (0, 0))) ∧ Aside0 (w'.heap[gb217]? = some (.cells #[.int .i64 ji3, u218001] 25 (0, 0))) ∧ Aside0 (IsS74 w0 w' g s0_0 x1001_2) ∧ Aside0 (KeepBut w w' g none) ∧ Aside0 (Below w0.heap.size w0 w'))
      case atStart => exact ⟨(0), (x1001_1), (x218001_1), (u218001), (by first | rfl | (simp; done) | (simp [*]; done)), H', ⟨Nat.le_refl _⟩, ⟨by (with_reducible repeat (first | apply Kd.V_alloc | apply Kd.V_drewN | apply Kd.V_drew)); exact HO_4.out⟩, ⟨by (with_reducible repeat (first | apply Kd.V_alloc | apply Kd.V_drewN | apply Kd.V_drew)); exact HO_4.out⟩, ⟨by (with_reducible repeat (first | apply Kd.R_alloc | apply Kd.R_drewN | apply Kd.R_drew)); exact HO_218001.out⟩, ⟨by (with_reducible repeat (first | refine blk_drewN ?_ _ | refine blk_drew ?_ | refine blk_alloc ?_ _)); exact BK214.out⟩, ⟨by (with_reducible repeat (first | refine blk_drewN ?_ _ | refine blk_drew ?_ | refine blk_alloc ?_ _)); exact BK217.out⟩, ⟨by repeat (first | (with_reducible first | exact HI0.out | apply IsS74.alloc | apply IsS74.drewN | apply IsS74.drew | apply IsS74.set_1 | refine IsS74.far ?_ NB0_214.out _ | refine IsS74.far ?_ NB0_217.out _) | exact HI0.out)⟩, ⟨by repeat (first | (with_reducible first | exact HK.out | apply KeepBut.set_ | apply keep_drewN | apply keep_drew | apply keep_alloc | refine keep_far ?_ GW214.out _ | refine keep_far ?_ GW217.out _) | exact HK.out)⟩, ⟨by repeat (first | (with_reducible first | exact HB.out | apply below_alloc | apply pw_below_drewN | apply below_drew1 | refine below_set ?_ (IsS74.ge HI0.out) | refine below_set ?_ GE214.out | refine below_set ?_ GE217.out) | exact HB.out)⟩⟩
      case round =>
       clear H'
       try clear c1
       try clear c2
       try clear p2
       try clear q2
       try clear hx2
       try clear c3
       try clear c4
       try clear c4b0
       try clear c5
       try clear c5b0
       try clear p6
       try clear c10
       try clear c11
       try clear c15
       try clear c23
       try clear p23
       try clear q23
       try clear hx23
       try clear c30
       try clear c30b0
       try clear hcz12_0
       try clear hcz12_1
       try clear hcz27_0
       try clear hcz27_1
       try clear hfz12_0
       try clear hfz12_1
       try clear hfz27_0
       try clear hfz27_1
       try clear hx233_0
       try clear p2
       try clear p23
       try clear p233
       try clear p6
       try clear q2
       try clear q23
       try clear q233
       obtain ⟨x30_2, x1001_2, x218001_2, u218001, rfl, HA, HK2, HO_4, HO_28, HO_218001, BK214, BK217, HI0, HK, HB⟩ := hrel
       cases gk with
       | zero => exact absurd HA.out (by simp [keyeventkit_Group.l1])
       | succ k2 =>
        have H := HA.out
        clear HA
        simp only [keyeventkit_Group.l1] at H
        by_cases c31 : x30_2 < ((rd_L1 y230 (ji3)).length : Int)
        ·rw [if_pos c31] at H
         have c31b0 : decide (x30_2 < ((rd_L1 y230 (ji3)).length : Int)) = true := decide_eq_true c31
         clear c31
         by_cases c32 : 0 ≤ x30_2
         ·rw [if_pos c32] at H
          have c32b0 : decide (0 ≤ x30_2) = true := decide_eq_true c32
          clear c32
          by_cases c33 : x30_2 < ((rd_L1 y230 (ji3)).length : Int)
          ·rw [if_pos c33] at H
           have c33b0 : decide (x30_2 < ((rd_L1 y230 (ji3)).length : Int)) = true := decide_eq_true c33
           clear c33
           replace H := Option.bind_eq_some_iff.mp H
           obtain ⟨⟨t237, t238⟩, A340, H⟩ := H
           replace H : (keyeventkit_Group.l2 k2 (rd_L1 y230 (ji3)) x5_1 (rd (rd_L1 y230 (ji3)) x30_2) (rd_L1 y230 (ji3)) ((rd_L1 y230 (ji3)).length : Int) x30_2 s0_0 t238 ji3 x218001_2 (rd (rd_L1 y230 (ji3)) x30_2) t237) = some (r1, r2, r3) := H
           have A34 := Aside0.mk A340
           clear A340
           have H' := Aside0.mk H
           clear H
           have p236 : 0 ≤ (x30_2 : Int) := of_decide_eq_true (by first | (with_reducible assumption) | assumption)
           have q236 : x30_2 < ((rd_L1 y230 (ji3)).length : Int) := of_decide_eq_true (by first | (with_reducible assumption) | assumption)
           obtain ⟨ad236, e236, hx236_0⟩ := Kd.at_int (Kd.V_reads' HO_28.out).2.2 x30_2 p236 q236
           cases e236
           replace p236 := eq_true p236
           replace q236 := eq_true q236
           go_wp2_with (first | ((with_reducible refine gate_callee (f := 40) rfl ?_); refine goesL_ (some 36) rfl rfl Try.func40 (by kernel_rfl) rfl #[.pointer (some ⟨g, 0, none⟩), .int .i64 4] rfl (by (try simp only [List.map_toArray, List.map_cons, List.map_nil]); first | done | rfl | (simp only [List.length_drop, List.length_take]; rfl)) ?_; (with_reducible refine (keyeventkit_Dice_Bytes.calls k2 g s0_0 x1001_2 4 t237 t238 w0 _ ?side1 ?side2 A34.out).mono ?_); (case side1 => repeat (first | (with_reducible first | exact HI0.out | apply IsS74.alloc | apply IsS74.drewN | apply IsS74.drew | apply IsS74.set_1 | refine IsS74.far ?_ NB0_214.out _ | refine IsS74.far ?_ NB0_217.out _) | exact HI0.out)); (case side2 => repeat (first | (with_reducible first | exact HB.out | apply below_alloc | apply pw_below_drewN | apply below_drew1 | refine below_set ?_ (IsS74.ge HI0.out) | refine below_set ?_ GE214.out | refine below_set ?_ GE217.out) | exact HB.out)); rintro e w35 ⟨rfl, hi, hb, hk⟩; refine ⟨_, rfl, ?_⟩; have n0_ := Aside0.mk (Kd.V_mono (Kd.V_keep (Kd.V_mono (ok := fun k_ => (some k_ ≠ (u218001 : Value).ownBlock ∧ (k_ ≠ gb214 ∧ (k_ ≠ gb217 ∧ k_ ≠ g)))) (by (with_reducible repeat (first | apply Kd.V_alloc | apply Kd.V_drewN | apply Kd.V_drew)); exact HO_4.out) (fun k_ hk_ => (⟨hk_, hk_.2.2.2⟩ : _ ∧ k_ ≠ g))) hk (fun _ h => h.2)) (fun _ h => h.1)); have n1_ := Aside0.mk (Kd.V_mono (Kd.V_keep (Kd.V_mono (ok := fun k_ => (some k_ ≠ (u218001 : Value).ownBlock ∧ (k_ ≠ gb214 ∧ (k_ ≠ gb217 ∧ k_ ≠ g)))) (by (with_reducible repeat (first | apply Kd.V_alloc | apply Kd.V_drewN | apply Kd.V_drew)); exact HO_28.out) (fun k_ hk_ => (⟨hk_, hk_.2.2.2⟩ : _ ∧ k_ ≠ g))) hk (fun _ h => h.2)) (fun _ h => h.1)); have n2_ := Aside0.mk (Kd.R_mono (Kd.R_keep (IsS74.apart (show IsS74 w0 _ g s0_0 x1001_2 from by repeat (first | (with_reducible first | exact HI0.out | apply IsS74.alloc | apply IsS74.drewN | apply IsS74.drew | apply IsS74.set_1 | refine IsS74.far ?_ NB0_214.out _ | refine IsS74.far ?_ NB0_217.out _) | exact HI0.out)) (by (with_reducible repeat (first | apply Kd.R_alloc | apply Kd.R_drewN | apply Kd.R_drew)); exact HO_218001.out) (by decide)) hk (fun _ h => h.2)) (fun _ h => h.1)); have n3_ := Aside0.mk (KeepBut.blk hk (g' := gb214) (o := .cells #[.int .i64 0, .slice none 0 0] 25 (0, 0)) (by (with_reducible repeat (first | refine blk_drewN ?_ _ | refine blk_drew ?_ | refine blk_alloc ?_ _)); exact BK214.out) NB214_0.out (by simp)); have n4_ := Aside0.mk (KeepBut.blk hk (g' := gb217) (o := .cells #[.int .i64 ji3, u218001] 25 (0, 0)) (by (with_reducible repeat (first | refine blk_drewN ?_ _ | refine blk_drew ?_ | refine blk_alloc ?_ _)); exact BK217.out) NB217_0.out (by simp)); have n5_ := Aside0.mk (KeepBut.trans (by repeat (first | (with_reducible first | exact HK.out | apply KeepBut.set_ | apply keep_drewN | apply keep_drew | apply keep_alloc | refine keep_far ?_ GW214.out _ | refine keep_far ?_ GW217.out _) | exact HK.out)) hk (.inl rfl)); have n6_ := Aside0.mk (hb); have n7_ := Aside0.mk (hi); clear HO_4; clear HO_28; clear HO_218001; clear BK214; clear BK217; clear HK; clear HB; clear HI0; have HO_4 := n0_; have HO_28 := n1_; have HO_218001 := n2_; have BK214 := n3_; have BK217 := n4_; have HK := n5_; have HB := n6_; have HI0 := n7_; clear n0_ n1_ n2_ n3_ n4_ n5_ n6_ n7_; (try clear hb); (try clear hb2); (try clear hk); (try clear hi)) | ((with_reducible refine gate_dst (N := 8) rfl ?_); refine box_event ?hg (N := 8) ?hd (cs := #[.int .i64 0, .string (⟨#[]⟩ : ByteArray)]) (t := 27) ?hr ?_; (case hd => rfl); (case hg => rfl); (case hr => first | (go_simp; done) | (go_simp; rfl)); intro gb239 hg w36 hbox hb; have n0_ := Aside0.mk (Kd.V_below (Kd.V_elderB (by (with_reducible repeat (first | apply Kd.V_alloc | apply Kd.V_drewN | apply Kd.V_drew)); exact HO_4.out) gb239 (Nat.le_of_eq hg.symm)) hb); have n1_ := Aside0.mk (Kd.V_below (Kd.V_elderB (by (with_reducible repeat (first | apply Kd.V_alloc | apply Kd.V_drewN | apply Kd.V_drew)); exact HO_28.out) gb239 (Nat.le_of_eq hg.symm)) hb); have n2_ := Aside0.mk (Kd.R_below (Kd.R_elderB (by (with_reducible repeat (first | apply Kd.R_alloc | apply Kd.R_drewN | apply Kd.R_drew)); exact HO_218001.out) gb239 (Nat.le_of_eq hg.symm)) hb); have n3_ := Aside0.mk (blk_below (g := gb214) (o := .cells #[.int .i64 0, .slice none 0 0] 25 (0, 0)) (by (with_reducible repeat (first | refine blk_drewN ?_ _ | refine blk_drew ?_ | refine blk_alloc ?_ _)); exact BK214.out) hb); have n4_ := Aside0.mk (blk_below (g := gb217) (o := .cells #[.int .i64 ji3, u218001] 25 (0, 0)) (by (with_reducible repeat (first | refine blk_drewN ?_ _ | refine blk_drew ?_ | refine blk_alloc ?_ _)); exact BK217.out) hb); have n5_ := Aside0.mk (IsS74.below (by repeat (first | (with_reducible first | exact HI0.out | apply IsS74.alloc | apply IsS74.drewN | apply IsS74.drew | apply IsS74.set_1 | refine IsS74.far ?_ NB0_214.out _ | refine IsS74.far ?_ NB0_217.out _) | exact HI0.out)) hb); have n6_ := Aside0.mk (KeepBut.trans (by repeat (first | (with_reducible first | exact HK.out | apply KeepBut.set_ | apply keep_drewN | apply keep_drew | apply keep_alloc | refine keep_far ?_ GW214.out _ | refine keep_far ?_ GW217.out _) | exact HK.out)) (KeepBut.of_below hb g none) (.inl rfl)); have n7_ := Aside0.mk (below_step (by repeat (first | (with_reducible first | exact HB.out | apply below_alloc | apply pw_below_drewN | apply below_drew1 | refine below_set ?_ (IsS74.ge HI0.out) | refine below_set ?_ GE214.out | refine below_set ?_ GE217.out) | exact HB.out)) hb); have n8_ := Aside0.mk (hbox); have n9_ := Aside0.mk ((by rw [hg]; exact (keep_size (w := w) (g := g) (row := none) (by repeat (first | (with_reducible first | exact HK.out | apply KeepBut.set_ | apply keep_drewN | apply keep_drew | apply keep_alloc | refine keep_far ?_ GW214.out _ | refine keep_far ?_ GW217.out _) | exact HK.out))) : w.heap.size ≤ gb239)); have n10_ := Aside0.mk ((Nat.le_trans HW0.out (by rw [hg]; exact (keep_size (w := w) (g := g) (row := none) (by repeat (first | (with_reducible first | exact HK.out | apply KeepBut.set_ | apply keep_drewN | apply keep_drew | apply keep_alloc | refine keep_far ?_ GW214.out _ | refine keep_far ?_ GW217.out _) | exact HK.out))) : w.heap.size ≤ gb239) : w0.heap.size ≤ gb239)); have n11_ := Aside0.mk ((by rw [hg]; exact Nat.ne_of_lt (blk_lt (g := gb214) (o := .cells #[.int .i64 0, .slice none 0 0] 25 (0, 0)) (by (with_reducible repeat (first | refine blk_drewN ?_ _ | refine blk_drew ?_ | refine blk_alloc ?_ _)); exact BK214.out)) : gb214 ≠ gb239)); have n12_ := Aside0.mk ((by rw [hg]; exact Nat.ne_of_gt (blk_lt (g := gb214) (o := .cells #[.int .i64 0, .slice none 0 0] 25 (0, 0)) (by (with_reducible repeat (first | refine blk_drewN ?_ _ | refine blk_drew ?_ | refine blk_alloc ?_ _)); exact BK214.out)) : gb239 ≠ gb214)); have n13_ := Aside0.mk ((by rw [hg]; exact Nat.ne_of_lt (blk_lt (g := gb217) (o := .cells #[.int .i64 ji3, u218001] 25 (0, 0)) (by (with_reducible repeat (first | refine blk_drewN ?_ _ | refine blk_drew ?_ | refine blk_alloc ?_ _)); exact BK217.out)) : gb217 ≠ gb239)); have n14_ := Aside0.mk ((by rw [hg]; exact Nat.ne_of_gt (blk_lt (g := gb217) (o := .cells #[.int .i64 ji3, u218001] 25 (0, 0)) (by (with_reducible repeat (first | refine blk_drewN ?_ _ | refine blk_drew ?_ | refine blk_alloc ?_ _)); exact BK217.out)) : gb239 ≠ gb217)); have n15_ := Aside0.mk ((by rw [hg]; exact Nat.ne_of_lt (IsS74.lt (show IsS74 w0 _ g s0_0 t238 from by repeat (first | (with_reducible first | exact HI0.out | apply IsS74.alloc | apply IsS74.drewN | apply IsS74.drew | apply IsS74.set_1 | refine IsS74.far ?_ NB0_214.out _ | refine IsS74.far ?_ NB0_217.out _) | exact HI0.out))) : g ≠ gb239)); have n16_ := Aside0.mk ((by rw [hg]; exact Nat.ne_of_gt (IsS74.lt (show IsS74 w0 _ g s0_0 t238 from by repeat (first | (with_reducible first | exact HI0.out | apply IsS74.alloc | apply IsS74.drewN | apply IsS74.drew | apply IsS74.set_1 | refine IsS74.far ?_ NB0_214.out _ | refine IsS74.far ?_ NB0_217.out _) | exact HI0.out))) : gb239 ≠ g)); clear HO_4; clear HO_28; clear HO_218001; clear BK214; clear BK217; clear HI0; clear HK; clear HB; have HO_4 := n0_; have HO_28 := n1_; have HO_218001 := n2_; have BK214 := n3_; have BK217 := n4_; have HI0 := n5_; have HK := n6_; have HB := n7_; have BK239 := n8_; have GW239 := n9_; have GE239 := n10_; have NB214_239 := n11_; have NB239_214 := n12_; have NB217_239 := n13_; have NB239_217 := n14_; have NB0_239 := n15_; have NB239_0 := n16_; clear n0_ n1_ n2_ n3_ n4_ n5_ n6_ n7_ n8_ n9_ n10_ n11_ n12_ n13_ n14_ n15_ n16_; clear hb hbox hg; have hnb37 := NB239_214.out; have hnc37 := NB214_239.out; have hnb38 := NB239_217.out; have hnc38 := NB217_239.out; have hnb39 := NB239_0.out; have hnc39 := NB0_239.out; have hcz40_0 : w36.cell? ⟨gb239, 0, none⟩ = some (.int .i64 0) := (blk_cell BK239.out 0).trans rfl; have hcz40_1 : w36.cell? ⟨gb239, 1, none⟩ = some (.string (⟨#[]⟩ : ByteArray)) := (blk_cell BK239.out 1).trans rfl; have hfz40_0 := blk_frozen BK239.out 0; have hfz40_1 := blk_frozen BK239.out 1))
           go_loopg [] k2 (fun kq w' => ∃ (x240001_3 : ByteArray), Aside0 (keyeventkit_Group.l2 kq (rd_L1 y230 (ji3)) x5_1 (rd (rd_L1 y230 (ji3)) x30_2) (rd_L1 y230 (ji3)) ((rd_L1 y230 (ji3)).length : Int) x30_2 s0_0 t238 ji3 x218001_2 (rd (rd_L1 y230 (ji3)) x30_2) x240001_3 = some (r1, r2, r3)) ∧ Aside0 (kq ≤ k2) ∧ Aside0 (Kd.V (Kd.int .i64) 3 w' w.heap.size (fun k_ => some k_ ≠ (u218001 : Value).ownBlock ∧ k_ ≠ gb214 ∧ k_ ≠ gb217 ∧ k_ ≠ gb239 ∧ k_ ≠ g) (.slice (some ad236) (rd_L1 y230 (ji3)).length c233_0) (rd_L1 y230 (ji3))) ∧ Aside0 (Kd.V (Kd.int .i64) 3 w' w.heap.size (fun k_ => some k_ ≠ (u218001 : Value).ownBlock ∧ k_ ≠ gb214 ∧ k_ ≠ gb217 ∧ k_ ≠ gb239 ∧ k_ ≠ g) (.slice (some ad236) (rd_L1 y230 (ji3)).length c233_0) (rd_L1 y230 (ji3))) ∧ Aside0 (Kd.R k27 27 w' w.heap.size (fun k_ => k_ ≠ gb239) u218001 x218001_2) ∧ Aside0 (w'.heap[gb214]? = some (.cells #[.int .i64 0, (.slice none 0 0)] 25 (0, 0))) ∧ Aside0 (w'.heap[gb217]? = some (.cells #[.int .i64 ji3, u218001] 25 (0, 0))) ∧ Aside0 (w'.heap[gb239]? = some (.cells #[.int .i64 (rd (rd_L1 y230 (ji3)) x30_2), .string x240001_3] 27 (0, 0))) ∧ Aside0 (IsS74 w0 w' g s0_0 t238) ∧ Aside0 (KeepBut w w' g none) ∧ Aside0 (Below w0.heap.size w0 w'))
           case atStart => exact ⟨(t237), H', ⟨Nat.le_refl _⟩, ⟨by (with_reducible repeat (first | apply Kd.V_alloc | apply Kd.V_drewN | apply Kd.V_drew)); exact Kd.V_mono (Kd.V_far (p := ⟨gb239, 1, none⟩) (Kd.V_far (p := ⟨gb239, 0, none⟩) (Kd.V_mono HO_4.out (fun k_ hk => (⟨hk, hk.2⟩ : _ ∧ k_ ≠ gb239))) (fun _ hk => hk.2) (.int .i64 (rd (rd_L1 y230 (ji3)) x30_2))) (fun _ hk => hk.2) (.string t237)) (fun _ hk => ⟨hk.1.1.1, ⟨hk.1.1.2.1, ⟨hk.1.1.2.2.1, ⟨hk.1.2, hk.1.1.2.2.2⟩⟩⟩⟩)⟩, ⟨by (with_reducible repeat (first | apply Kd.V_alloc | apply Kd.V_drewN | apply Kd.V_drew)); exact Kd.V_mono (Kd.V_far (p := ⟨gb239, 1, none⟩) (Kd.V_far (p := ⟨gb239, 0, none⟩) (Kd.V_mono HO_28.out (fun k_ hk => (⟨hk, hk.2⟩ : _ ∧ k_ ≠ gb239))) (fun _ hk => hk.2) (.int .i64 (rd (rd_L1 y230 (ji3)) x30_2))) (fun _ hk => hk.2) (.string t237)) (fun _ hk => ⟨hk.1.1.1, ⟨hk.1.1.2.1, ⟨hk.1.1.2.2.1, ⟨hk.1.2, hk.1.1.2.2.2⟩⟩⟩⟩)⟩, ⟨by (with_reducible repeat (first | apply Kd.R_alloc | apply Kd.R_drewN | apply Kd.R_drew)); exact Kd.R_mono (Kd.R_far (p := ⟨gb239, 1, none⟩) (Kd.R_far (p := ⟨gb239, 0, none⟩) (Kd.R_mono HO_218001.out (fun k_ hk => (⟨hk, hk.2⟩ : _ ∧ k_ ≠ gb239))) (fun _ hk => hk.2) (.int .i64 (rd (rd_L1 y230 (ji3)) x30_2))) (fun _ hk => hk.2) (.string t237)) (fun _ hk => hk.1.2)⟩, ⟨by (with_reducible repeat (first | refine blk_drewN ?_ _ | refine blk_drew ?_ | refine blk_alloc ?_ _)); refine blk_far ?_ NB214_239.out _; (with_reducible repeat (first | refine blk_drewN ?_ _ | refine blk_drew ?_ | refine blk_alloc ?_ _)); refine blk_far ?_ NB214_239.out _; (with_reducible repeat (first | refine blk_drewN ?_ _ | refine blk_drew ?_ | refine blk_alloc ?_ _)); exact BK214.out⟩, ⟨by (with_reducible repeat (first | refine blk_drewN ?_ _ | refine blk_drew ?_ | refine blk_alloc ?_ _)); refine blk_far ?_ NB217_239.out _; (with_reducible repeat (first | refine blk_drewN ?_ _ | refine blk_drew ?_ | refine blk_alloc ?_ _)); refine blk_far ?_ NB217_239.out _; (with_reducible repeat (first | refine blk_drewN ?_ _ | refine blk_drew ?_ | refine blk_alloc ?_ _)); exact BK217.out⟩, ⟨by (with_reducible repeat (first | refine blk_drewN ?_ _ | refine blk_drew ?_ | refine blk_alloc ?_ _)); refine blk_put (cs := #[.int .i64 (rd (rd_L1 y230 (ji3)) x30_2), .string (⟨#[]⟩ : ByteArray)]) ?_ 1 _ rfl; (with_reducible repeat (first | refine blk_drewN ?_ _ | refine blk_drew ?_ | refine blk_alloc ?_ _)); refine blk_put (cs := #[.int .i64 0, .string (⟨#[]⟩ : ByteArray)]) ?_ 0 _ rfl; (with_reducible repeat (first | refine blk_drewN ?_ _ | refine blk_drew ?_ | refine blk_alloc ?_ _)); exact BK239.out⟩, ⟨by repeat (first | (with_reducible first | exact HI0.out | apply IsS74.alloc | apply IsS74.drewN | apply IsS74.drew | apply IsS74.set_1 | refine IsS74.far ?_ NB0_214.out _ | refine IsS74.far ?_ NB0_217.out _ | refine IsS74.far ?_ NB0_239.out _) | exact HI0.out)⟩, ⟨by repeat (first | (with_reducible first | exact HK.out | apply KeepBut.set_ | apply keep_drewN | apply keep_drew | apply keep_alloc | refine keep_far ?_ GW214.out _ | refine keep_far ?_ GW217.out _ | refine keep_far ?_ GW239.out _) | exact HK.out)⟩, ⟨by repeat (first | (with_reducible first | exact HB.out | apply below_alloc | apply pw_below_drewN | apply below_drew1 | refine below_set ?_ (IsS74.ge HI0.out) | refine below_set ?_ GE214.out | refine below_set ?_ GE217.out | refine below_set ?_ GE239.out) | exact HB.out)⟩⟩
           case round =>
            clear H'
            try clear c1
            try clear c2
            try clear p2
            try clear q2
            try clear hx2
            try clear c3
            try clear c4
            try clear c4b0
            try clear c5
            try clear c5b0
            try clear p6
            try clear c10
            try clear c11
            try clear c15
            try clear c23
            try clear p23
            try clear q23
            try clear hx23
            try clear c30
            try clear c30b0
            try clear c31
            try clear c31b0
            try clear c32
            try clear c32b0
            try clear c33
            try clear c33b0
            try clear c37
            try clear c38
            try clear c39
            try clear c40
            try clear hcz12_0
            try clear hcz12_1
            try clear hcz27_0
            try clear hcz27_1
            try clear hcz40_0
            try clear hcz40_1
            try clear hfz12_0
            try clear hfz12_1
            try clear hfz27_0
            try clear hfz27_1
            try clear hfz40_0
            try clear hfz40_1
            try clear hx233_0
            try clear hx236_0
            try clear p2
            try clear p23
            try clear p233
            try clear p236
            try clear p6
            try clear q2
            try clear q23
            try clear q233
            try clear q236
            obtain ⟨x240001_3, HA, HK3, HO_4, HO_28, HO_218001, BK214, BK217, BK239, HI0, HK, HB⟩ := hrel
            cases gk with
            | zero => exact absurd HA.out (by simp [keyeventkit_Group.l2])
            | succ k3 =>
             have H := HA.out
             clear HA
             simp only [keyeventkit_Group.l2] at H
             replace H := Option.bind_eq_some_iff.mp H
             obtain ⟨t240, A410, H⟩ := H
             replace H : (if (x240001_3.size : Int) < t240 then (if x240001_3.size + 1 ≤ 9223372036854775807 then (keyeventkit_Group.l2 k3 (rd_L1 y230 (ji3)) x5_1 (rd (rd_L1 y230 (ji3)) x30_2) (rd_L1 y230 (ji3)) ((rd_L1 y230 (ji3)).length : Int) x30_2 s0_0 t238 ji3 x218001_2 (rd (rd_L1 y230 (ji3)) x30_2) (x240001_3 ++ (⟨#[1]⟩ : ByteArray))) else (none)) else (if x218001_2.length < 5864062014805 then (keyeventkit_Group.l1 k3 (rd_L1 y230 (ji3)) x5_1 (rd_L1 y230 (ji3)) ((rd_L1 y230 (ji3)).length : Int) (wrap64 (x30_2 + 1)) s0_0 t238 ji3 (x218001_2 ++ [(⟨(rd (rd_L1 y230 (ji3)) x30_2), x240001_3⟩ : S27)])) else (none))) = some (r1, r2, r3) := H
             have A41 := Aside0.mk A410
             clear A410
             by_cases c42 : (x240001_3.size : Int) < t240
             ·rw [if_pos c42] at H
              have c42b0 : decide ((x240001_3.size : Int) < t240) = true := decide_eq_true c42
              clear c42
              by_cases c43 : x240001_3.size + 1 ≤ 9223372036854775807
              ·rw [if_pos c43] at H
               have c43b0 := eq_true c43
               have c43b1 : decide (x240001_3.size + 1 ≤ 9223372036854775807) = true := decide_eq_true c43
               try have c43b2 : (9223372036854775807 < x240001_3.size + 1) = False := eq_false (Nat.not_lt.2 c43)
               have H' := Aside0.mk H
               clear H
               try go_wp2
               have n0_ := Aside0.mk (Kd.V_drew HO_4.out)
               have n1_ := Aside0.mk (Kd.V_drew HO_28.out)
               have n2_ := Aside0.mk (Kd.R_drew HO_218001.out)
               have n3_ := Aside0.mk (blk_drew BK214.out)
               have n4_ := Aside0.mk (blk_drew BK217.out)
               have n5_ := Aside0.mk (blk_drew BK239.out)
               have n6_ := Aside0.mk (IsS74.drew HI0.out)
               have n7_ := Aside0.mk (keep_drew HK.out)
               have n8_ := Aside0.mk (below_drew1 HB.out)
               clear HO_4
               clear HO_28
               clear HO_218001
               clear BK214
               clear BK217
               clear BK239
               clear HI0
               clear HK
               clear HB
               have HO_4 := n0_
               have HO_28 := n1_
               have HO_218001 := n2_
               have BK214 := n3_
               have BK217 := n4_
               have BK239 := n5_
               have HI0 := n6_
               have HK := n7_
               have HB := n8_
               clear n0_ n1_ n2_ n3_ n4_ n5_ n6_ n7_ n8_
               refine start_ (n := 6) (S := fun w' => w'.cell? ⟨gb239, 0, none⟩ = some (.int .i64 (rd (rd_L1 y230 (ji3)) x30_2)) ∧ w'.cell? ⟨gb239, 1, none⟩ = some (.string x240001_3)) (ds := []) #[false, false, false, false, false, false] (by kernel_rfl) rfl rfl ⟨(blk_cell BK239.out 0).trans rfl, (blk_cell BK239.out 1).trans rfl⟩ (fun hHeld => ?_)
               generalize wr.drew = w44 at HO_4 HO_28 HO_218001 BK214 BK217 BK239 HI0 HK HB hHeld ⊢
               refine pure_ (i := 0) (N := some 38) (v := ?_) (a' := ?_) #[true, false, false, false, false, false] rfl rfl (by kernel_rfl) (fun _ _ _ h => h) (Or.inl ⟨by rfl, ?_⟩) ?_ ?_
               rotate_left
               ·intro w'
                go_simp
                with_reducible rfl
               rotate_left
               ·simp only [Act.put, List.setIfInBounds_toArray, List.set_cons_zero, List.set_cons_succ, i64_w, i32_w]
                rfl
               refine pure_ (i := 3) (N := some 41) (v := ?_) (a' := ?_) #[true, false, false, true, false, false] rfl rfl (by kernel_rfl) (fun _ _ _ h => h) (Or.inl ⟨by rfl, ?_⟩) ?_ ?_
               rotate_left
               ·intro w'
                go_simp
                with_reducible rfl
               rotate_left
               ·simp only [Act.put, List.setIfInBounds_toArray, List.set_cons_zero, List.set_cons_succ, i64_w, i32_w]
                rfl
               refine take_ (i := 1) (N := some 39) (v := ?_) (a' := ?_) #[true, true, false, true, false, false] rfl rfl (by kernel_rfl) (fun _ _ _ h => h) (Or.inl ⟨by rfl, ?_⟩) hHeld ?_ ?_
               rotate_left
               ·rintro w' ⟨s0, s1⟩
                go_simp
                with_reducible rfl
               rotate_left
               ·simp only [Act.put, List.setIfInBounds_toArray, List.set_cons_zero, List.set_cons_succ, i64_w, i32_w]
                rfl
               refine pure_ (i := 2) (N := some 40) (v := ?_) (a' := ?_) #[true, true, true, true, false, false] rfl rfl (by kernel_rfl) (fun _ _ _ h => h) (Or.inl ⟨by rfl, ?_⟩) ?_ ?_
               rotate_left
               ·intro w'
                go_simp
                with_reducible rfl
               rotate_left
               ·simp only [Act.put, List.setIfInBounds_toArray, List.set_cons_zero, List.set_cons_succ, i64_w, i32_w]
                rfl
               refine one_ (i := 4) (N := some 42) #[true, true, true, true, true, false] rfl rfl (by kernel_rfl) (by decide) (fun K hK => ?_)
               refine goes_ Try.func41 (by kernel_rfl) rfl #[.int .i64 (rd (rd_L1 y230 (ji3)) x30_2)] (by rfl) rfl rfl (by (try simp only [List.map_toArray, List.map_cons, List.map_nil]); first | done | (simp only [hji3]; rfl) | rfl | (simp only [List.length_drop, List.length_take]; rfl)) ?_
               with_reducible refine (keyeventref03_Raw.calls (rd (rd_L1 y230 (ji3)) x30_2) t240 _ A41.out).mono ?_
               rintro e w45 ⟨rfl, hb⟩
               refine ⟨_, rfl, ?_⟩
               have n0_ := Aside0.mk (Kd.V_below (by (with_reducible repeat (first | apply Kd.V_alloc | apply Kd.V_drewN | apply Kd.V_drew)); exact HO_4.out) hb)
               have n1_ := Aside0.mk (Kd.V_below (by (with_reducible repeat (first | apply Kd.V_alloc | apply Kd.V_drewN | apply Kd.V_drew)); exact HO_28.out) hb)
               have n2_ := Aside0.mk (Kd.R_below (by (with_reducible repeat (first | apply Kd.R_alloc | apply Kd.R_drewN | apply Kd.R_drew)); exact HO_218001.out) hb)
               have n3_ := Aside0.mk (blk_below (g := gb214) (o := .cells #[.int .i64 0, .slice none 0 0] 25 (0, 0)) (by (with_reducible repeat (first | refine blk_drewN ?_ _ | refine blk_drew ?_ | refine blk_alloc ?_ _)); exact BK214.out) hb)
               have n4_ := Aside0.mk (blk_below (g := gb217) (o := .cells #[.int .i64 ji3, u218001] 25 (0, 0)) (by (with_reducible repeat (first | refine blk_drewN ?_ _ | refine blk_drew ?_ | refine blk_alloc ?_ _)); exact BK217.out) hb)
               have n5_ := Aside0.mk (blk_below (g := gb239) (o := .cells #[.int .i64 (rd (rd_L1 y230 (ji3)) x30_2), .string x240001_3] 27 (0, 0)) (by (with_reducible repeat (first | refine blk_drewN ?_ _ | refine blk_drew ?_ | refine blk_alloc ?_ _)); exact BK239.out) hb)
               have n6_ := Aside0.mk (IsS74.below (by repeat (first | (with_reducible first | exact HI0.out | apply IsS74.alloc | apply IsS74.drewN | apply IsS74.drew | apply IsS74.set_1 | refine IsS74.far ?_ NB0_214.out _ | refine IsS74.far ?_ NB0_217.out _ | refine IsS74.far ?_ NB0_239.out _) | exact HI0.out)) hb)
               have n7_ := Aside0.mk (KeepBut.trans (by repeat (first | (with_reducible first | exact HK.out | apply KeepBut.set_ | apply keep_drewN | apply keep_drew | apply keep_alloc | refine keep_far ?_ GW214.out _ | refine keep_far ?_ GW217.out _ | refine keep_far ?_ GW239.out _) | exact HK.out)) (KeepBut.of_below hb g none) (.inl rfl))
               have n8_ := Aside0.mk (below_step (by repeat (first | (with_reducible first | exact HB.out | apply below_alloc | apply pw_below_drewN | apply below_drew1 | refine below_set ?_ (IsS74.ge HI0.out) | refine below_set ?_ GE214.out | refine below_set ?_ GE217.out | refine below_set ?_ GE239.out) | exact HB.out)) hb)
               clear HO_4
               clear HO_28
               clear HO_218001
               clear BK214
               clear BK217
               clear BK239
               clear HI0
               clear HK
               clear HB
               have HO_4 := n0_
               have HO_28 := n1_
               have HO_218001 := n2_
               have BK214 := n3_
               have BK217 := n4_
               have BK239 := n5_
               have HI0 := n6_
               have HK := n7_
               have HB := n8_
               clear n0_ n1_ n2_ n3_ n4_ n5_ n6_ n7_ n8_
               (try clear hb)
               (try clear hb2)
               (try clear hk)
               (try clear hi)
               refine hK.out _ _ ⟨(blk_cell BK239.out 0).trans rfl, (blk_cell BK239.out 1).trans rfl⟩ (fun hHeld => ?_)
               clear hK K
               refine norm_ (a' := ?_) ?_ ?_
               rotate_left
               ·show Act.put _ (some 42) _ = _
                simp only [Act.put, List.setIfInBounds_toArray, List.set_cons_zero, List.set_cons_succ, i64_w, i32_w]
                rfl
               refine pure_ (i := 5) (N := some 43) (v := ?_) (a' := ?_) #[true, true, true, true, true, true] rfl rfl (by kernel_rfl) (fun _ _ _ h => h) (Or.inl ⟨by rfl, ?_⟩) ?_ ?_
               rotate_left
               ·intro w'
                go_simp
                with_reducible rfl
               rotate_left
               ·simp only [Act.put, List.setIfInBounds_toArray, List.set_cons_zero, List.set_cons_succ, i64_w, i32_w]
                rfl
               refine done_ (by kernel_rfl) ?_
               have hnb46 := NB239_214.out
               have hnc46 := NB214_239.out
               have hnb47 := NB239_217.out
               have hnc47 := NB217_239.out
               have hnb48 := NB239_0.out
               have hnc48 := NB0_239.out
               have hcz49_0 : w45.cell? ⟨gb239, 0, none⟩ = some (.int .i64 (rd (rd_L1 y230 (ji3)) x30_2)) := (blk_cell BK239.out 0).trans rfl
               have hcz49_1 : w45.cell? ⟨gb239, 1, none⟩ = some (.string x240001_3) := (blk_cell BK239.out 1).trans rfl
               have hfz49_0 := blk_frozen BK239.out 0
               have hfz49_1 := blk_frozen BK239.out 1
               try go_wp2
               go_roundg k3
               case measure => have := HK1.out; have := HK2.out; have := HK3.out; omega
               case rel => exact ⟨(x240001_3 ++ (⟨#[1]⟩ : ByteArray)), H', ⟨by have := HK1.out; have := HK2.out; have := HK3.out; omega⟩, ⟨by (with_reducible repeat (first | apply Kd.V_alloc | apply Kd.V_drewN | apply Kd.V_drew)); exact Kd.V_mono (Kd.V_far (p := ⟨gb239, 1, none⟩) (Kd.V_mono HO_4.out (fun k_ hk => (⟨hk, hk.2.2.2.1⟩ : _ ∧ k_ ≠ gb239))) (fun _ hk => hk.2) (.string (x240001_3 ++ (⟨#[1]⟩ : ByteArray)))) (fun _ hk => ⟨hk.1.1, ⟨hk.1.2.1, ⟨hk.1.2.2.1, ⟨hk.1.2.2.2.1, hk.1.2.2.2.2⟩⟩⟩⟩)⟩, ⟨by (with_reducible repeat (first | apply Kd.V_alloc | apply Kd.V_drewN | apply Kd.V_drew)); exact Kd.V_mono (Kd.V_far (p := ⟨gb239, 1, none⟩) (Kd.V_mono HO_28.out (fun k_ hk => (⟨hk, hk.2.2.2.1⟩ : _ ∧ k_ ≠ gb239))) (fun _ hk => hk.2) (.string (x240001_3 ++ (⟨#[1]⟩ : ByteArray)))) (fun _ hk => ⟨hk.1.1, ⟨hk.1.2.1, ⟨hk.1.2.2.1, ⟨hk.1.2.2.2.1, hk.1.2.2.2.2⟩⟩⟩⟩)⟩, ⟨by (with_reducible repeat (first | apply Kd.R_alloc | apply Kd.R_drewN | apply Kd.R_drew)); exact Kd.R_mono (Kd.R_far (p := ⟨gb239, 1, none⟩) (Kd.R_mono HO_218001.out (fun k_ hk => (⟨hk, hk⟩ : _ ∧ k_ ≠ gb239))) (fun _ hk => hk.2) (.string (x240001_3 ++ (⟨#[1]⟩ : ByteArray)))) (fun _ hk => hk.1)⟩, ⟨by (with_reducible repeat (first | refine blk_drewN ?_ _ | refine blk_drew ?_ | refine blk_alloc ?_ _)); refine blk_far ?_ NB214_239.out _; (with_reducible repeat (first | refine blk_drewN ?_ _ | refine blk_drew ?_ | refine blk_alloc ?_ _)); exact BK214.out⟩, ⟨by (with_reducible repeat (first | refine blk_drewN ?_ _ | refine blk_drew ?_ | refine blk_alloc ?_ _)); refine blk_far ?_ NB217_239.out _; (with_reducible repeat (first | refine blk_drewN ?_ _ | refine blk_drew ?_ | refine blk_alloc ?_ _)); exact BK217.out⟩, ⟨by (with_reducible repeat (first | refine blk_drewN ?_ _ | refine blk_drew ?_ | refine blk_alloc ?_ _)); refine blk_put (cs := #[.int .i64 (rd (rd_L1 y230 (ji3)) x30_2), .string x240001_3]) ?_ 1 _ rfl; (with_reducible repeat (first | refine blk_drewN ?_ _ | refine blk_drew ?_ | refine blk_alloc ?_ _)); exact BK239.out⟩, ⟨by repeat (first | (with_reducible first | exact HI0.out | apply IsS74.alloc | apply IsS74.drewN | apply IsS74.drew | apply IsS74.set_1 | refine IsS74.far ?_ NB0_214.out _ | refine IsS74.far ?_ NB0_217.out _ | refine IsS74.far ?_ NB0_239.out _) | exact HI0.out)⟩, ⟨by repeat (first | (with_reducible first | exact HK.out | apply KeepBut.set_ | apply keep_drewN | apply keep_drew | apply keep_alloc | refine keep_far ?_ GW214.out _ | refine keep_far ?_ GW217.out _ | refine keep_far ?_ GW239.out _) | exact HK.out)⟩, ⟨by repeat (first | (with_reducible first | exact HB.out | apply below_alloc | apply pw_below_drewN | apply below_drew1 | refine below_set ?_ (IsS74.ge HI0.out) | refine below_set ?_ GE214.out | refine below_set ?_ GE217.out | refine below_set ?_ GE239.out) | exact HB.out)⟩⟩
              ·rw [if_neg c43] at H
               exact absurd H (by simp)
             ·rw [if_neg c42] at H
              have c42b0 : decide ((x240001_3.size : Int) < t240) = false := decide_eq_false c42
              clear c42
              by_cases c50 : x218001_2.length < 5864062014805
              ·rw [if_pos c50] at H
               have LMc50 := Aside0.mk c50
               clear c50
               obtain ⟨y241, hy241⟩ : ∃ y_ : List (S27), y_ = (x218001_2 ++ [(⟨(rd (rd_L1 y230 (ji3)) x30_2), x240001_3⟩ : S27)]) := ⟨_, rfl⟩
               replace H : (keyeventkit_Group.l1 k3 (rd_L1 y230 (ji3)) x5_1 (rd_L1 y230 (ji3)) ((rd_L1 y230 (ji3)).length : Int) (wrap64 (x30_2 + 1)) s0_0 t238 ji3 y241) = some (r1, r2, r3) := by first | (rw [hy241]; with_reducible exact H) | (have H2_ := (Option.bind_some _ _).symm.trans H; rw [hy241]; with_reducible exact H2_) | (have H2_ := (Option.bind_some _ _).symm.trans H; with_reducible exact H2_) | with_reducible exact H | (rw [hy241]; exact H) | exact H
               have Ny241 := Aside0.mk hy241
               clear hy241
               have H' := Aside0.mk H
               clear H
               try go_wp2
               have n0_ := Aside0.mk (Kd.V_drew HO_4.out)
               have n1_ := Aside0.mk (Kd.V_drew HO_28.out)
               have n2_ := Aside0.mk (Kd.R_drew HO_218001.out)
               have n3_ := Aside0.mk (blk_drew BK214.out)
               have n4_ := Aside0.mk (blk_drew BK217.out)
               have n5_ := Aside0.mk (blk_drew BK239.out)
               have n6_ := Aside0.mk (IsS74.drew HI0.out)
               have n7_ := Aside0.mk (keep_drew HK.out)
               have n8_ := Aside0.mk (below_drew1 HB.out)
               clear HO_4
               clear HO_28
               clear HO_218001
               clear BK214
               clear BK217
               clear BK239
               clear HI0
               clear HK
               clear HB
               have HO_4 := n0_
               have HO_28 := n1_
               have HO_218001 := n2_
               have BK214 := n3_
               have BK217 := n4_
               have BK239 := n5_
               have HI0 := n6_
               have HK := n7_
               have HB := n8_
               clear n0_ n1_ n2_ n3_ n4_ n5_ n6_ n7_ n8_
               refine start_ (n := 6) (S := fun w' => w'.cell? ⟨gb239, 0, none⟩ = some (.int .i64 (rd (rd_L1 y230 (ji3)) x30_2)) ∧ w'.cell? ⟨gb239, 1, none⟩ = some (.string x240001_3)) (ds := []) #[false, false, false, false, false, false] (by kernel_rfl) rfl rfl ⟨(blk_cell BK239.out 0).trans rfl, (blk_cell BK239.out 1).trans rfl⟩ (fun hHeld => ?_)
               generalize wr.drew = w51 at HO_4 HO_28 HO_218001 BK214 BK217 BK239 HI0 HK HB hHeld ⊢
               refine pure_ (i := 0) (N := some 38) (v := ?_) (a' := ?_) #[true, false, false, false, false, false] rfl rfl (by kernel_rfl) (fun _ _ _ h => h) (Or.inl ⟨by rfl, ?_⟩) ?_ ?_
               rotate_left
               ·intro w'
                go_simp
                with_reducible rfl
               rotate_left
               ·simp only [Act.put, List.setIfInBounds_toArray, List.set_cons_zero, List.set_cons_succ, i64_w, i32_w]
                rfl
               refine pure_ (i := 3) (N := some 41) (v := ?_) (a' := ?_) #[true, false, false, true, false, false] rfl rfl (by kernel_rfl) (fun _ _ _ h => h) (Or.inl ⟨by rfl, ?_⟩) ?_ ?_
               rotate_left
               ·intro w'
                go_simp
                with_reducible rfl
               rotate_left
               ·simp only [Act.put, List.setIfInBounds_toArray, List.set_cons_zero, List.set_cons_succ, i64_w, i32_w]
                rfl
               refine take_ (i := 1) (N := some 39) (v := ?_) (a' := ?_) #[true, true, false, true, false, false] rfl rfl (by kernel_rfl) (fun _ _ _ h => h) (Or.inl ⟨by rfl, ?_⟩) hHeld ?_ ?_
               rotate_left
               ·rintro w' ⟨s0, s1⟩
                go_simp
                with_reducible rfl
               rotate_left
               ·simp only [Act.put, List.setIfInBounds_toArray, List.set_cons_zero, List.set_cons_succ, i64_w, i32_w]
                rfl
               refine pure_ (i := 2) (N := some 40) (v := ?_) (a' := ?_) #[true, true, true, true, false, false] rfl rfl (by kernel_rfl) (fun _ _ _ h => h) (Or.inl ⟨by rfl, ?_⟩) ?_ ?_
               rotate_left
               ·intro w'
                go_simp
                with_reducible rfl
               rotate_left
               ·simp only [Act.put, List.setIfInBounds_toArray, List.set_cons_zero, List.set_cons_succ, i64_w, i32_w]
                rfl
               refine one_ (i := 4) (N := some 42) #[true, true, true, true, true, false] rfl rfl (by kernel_rfl) (by decide) (fun K hK => ?_)
               refine goes_ Try.func41 (by kernel_rfl) rfl #[.int .i64 (rd (rd_L1 y230 (ji3)) x30_2)] (by rfl) rfl rfl (by (try simp only [List.map_toArray, List.map_cons, List.map_nil]); first | done | (simp only [hji3]; rfl) | rfl | (simp only [List.length_drop, List.length_take]; rfl)) ?_
               with_reducible refine (keyeventref03_Raw.calls (rd (rd_L1 y230 (ji3)) x30_2) t240 _ A41.out).mono ?_
               rintro e w52 ⟨rfl, hb⟩
               refine ⟨_, rfl, ?_⟩
               have n0_ := Aside0.mk (Kd.V_below (by (with_reducible repeat (first | apply Kd.V_alloc | apply Kd.V_drewN | apply Kd.V_drew)); exact HO_4.out) hb)
               have n1_ := Aside0.mk (Kd.V_below (by (with_reducible repeat (first | apply Kd.V_alloc | apply Kd.V_drewN | apply Kd.V_drew)); exact HO_28.out) hb)
               have n2_ := Aside0.mk (Kd.R_below (by (with_reducible repeat (first | apply Kd.R_alloc | apply Kd.R_drewN | apply Kd.R_drew)); exact HO_218001.out) hb)
               have n3_ := Aside0.mk (blk_below (g := gb214) (o := .cells #[.int .i64 0, .slice none 0 0] 25 (0, 0)) (by (with_reducible repeat (first | refine blk_drewN ?_ _ | refine blk_drew ?_ | refine blk_alloc ?_ _)); exact BK214.out) hb)
               have n4_ := Aside0.mk (blk_below (g := gb217) (o := .cells #[.int .i64 ji3, u218001] 25 (0, 0)) (by (with_reducible repeat (first | refine blk_drewN ?_ _ | refine blk_drew ?_ | refine blk_alloc ?_ _)); exact BK217.out) hb)
               have n5_ := Aside0.mk (blk_below (g := gb239) (o := .cells #[.int .i64 (rd (rd_L1 y230 (ji3)) x30_2), .string x240001_3] 27 (0, 0)) (by (with_reducible repeat (first | refine blk_drewN ?_ _ | refine blk_drew ?_ | refine blk_alloc ?_ _)); exact BK239.out) hb)
               have n6_ := Aside0.mk (IsS74.below (by repeat (first | (with_reducible first | exact HI0.out | apply IsS74.alloc | apply IsS74.drewN | apply IsS74.drew | apply IsS74.set_1 | refine IsS74.far ?_ NB0_214.out _ | refine IsS74.far ?_ NB0_217.out _ | refine IsS74.far ?_ NB0_239.out _) | exact HI0.out)) hb)
               have n7_ := Aside0.mk (KeepBut.trans (by repeat (first | (with_reducible first | exact HK.out | apply KeepBut.set_ | apply keep_drewN | apply keep_drew | apply keep_alloc | refine keep_far ?_ GW214.out _ | refine keep_far ?_ GW217.out _ | refine keep_far ?_ GW239.out _) | exact HK.out)) (KeepBut.of_below hb g none) (.inl rfl))
               have n8_ := Aside0.mk (below_step (by repeat (first | (with_reducible first | exact HB.out | apply below_alloc | apply pw_below_drewN | apply below_drew1 | refine below_set ?_ (IsS74.ge HI0.out) | refine below_set ?_ GE214.out | refine below_set ?_ GE217.out | refine below_set ?_ GE239.out) | exact HB.out)) hb)
               clear HO_4
               clear HO_28
               clear HO_218001
               clear BK214
               clear BK217
               clear BK239
               clear HI0
               clear HK
               clear HB
               have HO_4 := n0_
               have HO_28 := n1_
               have HO_218001 := n2_
               have BK214 := n3_
               have BK217 := n4_
               have BK239 := n5_
               have HI0 := n6_
               have HK := n7_
               have HB := n8_
               clear n0_ n1_ n2_ n3_ n4_ n5_ n6_ n7_ n8_
               (try clear hb)
               (try clear hb2)
               (try clear hk)
               (try clear hi)
               refine hK.out _ _ ⟨(blk_cell BK239.out 0).trans rfl, (blk_cell BK239.out 1).trans rfl⟩ (fun hHeld => ?_)
               clear hK K
               refine norm_ (a' := ?_) ?_ ?_
               rotate_left
               ·show Act.put _ (some 42) _ = _
                simp only [Act.put, List.setIfInBounds_toArray, List.set_cons_zero, List.set_cons_succ, i64_w, i32_w]
                rfl
               refine pure_ (i := 5) (N := some 43) (v := ?_) (a' := ?_) #[true, true, true, true, true, true] rfl rfl (by kernel_rfl) (fun _ _ _ h => h) (Or.inl ⟨by rfl, ?_⟩) ?_ ?_
               rotate_left
               ·intro w'
                go_simp
                with_reducible rfl
               rotate_left
               ·simp only [Act.put, List.setIfInBounds_toArray, List.set_cons_zero, List.set_cons_succ, i64_w, i32_w]
                rfl
               refine done_ (by kernel_rfl) ?_
               have hnb53 := NB217_214.out
               have hnc53 := NB214_217.out
               have hnb54 := NB217_239.out
               have hnc54 := NB239_217.out
               have hnb55 := NB217_0.out
               have hnc55 := NB0_217.out
               have hcz56_0 : w52.cell? ⟨gb217, 0, none⟩ = some (.int .i64 ji3) := (blk_cell BK217.out 0).trans rfl
               have hcz56_1 : w52.cell? ⟨gb217, 1, none⟩ = some (u218001) := (blk_cell BK217.out 1).trans rfl
               have hfz56_0 := blk_frozen BK217.out 0
               have hfz56_1 := blk_frozen BK217.out 1
               have hnb57 := NB239_214.out
               have hnc57 := NB214_239.out
               have hnb58 := NB239_0.out
               have hnc58 := NB0_239.out
               have hcz59_0 : w52.cell? ⟨gb239, 0, none⟩ = some (.int .i64 (rd (rd_L1 y230 (ji3)) x30_2)) := (blk_cell BK239.out 0).trans rfl
               have hcz59_1 : w52.cell? ⟨gb239, 1, none⟩ = some (.string x240001_3) := (blk_cell BK239.out 1).trans rfl
               have hfz59_0 := blk_frozen BK239.out 0
               have hfz59_1 := blk_frozen BK239.out 1
               try go_wp2_with (first | ((with_reducible refine gate_builtin (b := .append) (xs := #[.tmp 49, .tmp 51]) rfl ?_); at_builtin; refine Kd.R_append k27 w.heap.size rfl (.tmp 49) (.tmp 51) 23 27 (.agg #[(.int .i64 0), (.string ⟨#[]⟩)]) 24 rfl Try.underlying23 info27 rfl (by decide) (by omega) u218001 x218001_2 (⟨(rd (rd_L1 y230 (ji3)) x30_2), x240001_3⟩ : S27) [.int .i64 (rd (rd_L1 y230 (ji3)) x30_2), .string x240001_3] (fun k_ => k_ ≠ gb239) (fun _ => False) rfl rfl ?aP (fun _ hk => hk.elim) ?aF ?aO (Below.refl _ _) ?aS ?aL ?_; (case aP => exact k27_mkM _ _ _ (⟨(rd (rd_L1 y230 (ji3)) x30_2), x240001_3⟩ : S27)); (case aF => exact (fun k_ hk => Kd.freshB (g := gb239) (o := .cells #[.int .i64 (rd (rd_L1 y230 (ji3)) x30_2), .string x240001_3] 27 (0, 0)) (by (with_reducible repeat (first | refine blk_drewN ?_ _ | refine blk_drew ?_ | refine blk_alloc ?_ _)); exact BK239.out) k_ hk)); (case aO => exact (by (with_reducible repeat (first | apply Kd.R_alloc | apply Kd.R_drewN | apply Kd.R_drew)); exact HO_218001.out)); (case aS => exact (keep_size (w := w) (g := g) (row := none) (by repeat (first | (with_reducible first | exact HK.out | apply KeepBut.set_ | apply keep_drewN | apply keep_drew | apply keep_alloc | refine keep_far ?_ GW214.out _ | refine keep_far ?_ GW217.out _ | refine keep_far ?_ GW239.out _) | exact HK.out)))); (case aL => have := LMc50.out; omega); intro v242 w60 ho hb hg hat; rw [← Ny241.out] at ho; have n0_ := Aside0.mk (Kd.V_afterv (ok := (fun k_ => k_ ≠ gb214 ∧ k_ ≠ gb217 ∧ k_ ≠ gb239 ∧ k_ ≠ g)) (by (with_reducible repeat (first | apply Kd.V_alloc | apply Kd.V_drewN | apply Kd.V_drew)); exact Kd.V_mono HO_4.out (fun _ hk => ⟨⟨hk.2.1, ⟨hk.2.2.1, ⟨hk.2.2.2.1, hk.2.2.2.2⟩⟩⟩, hk.1⟩)) hg hat); have n1_ := Aside0.mk (Kd.V_afterv (ok := (fun k_ => k_ ≠ gb214 ∧ k_ ≠ gb217 ∧ k_ ≠ gb239 ∧ k_ ≠ g)) (by (with_reducible repeat (first | apply Kd.V_alloc | apply Kd.V_drewN | apply Kd.V_drew)); exact Kd.V_mono HO_28.out (fun _ hk => ⟨⟨hk.2.1, ⟨hk.2.2.1, ⟨hk.2.2.2.1, hk.2.2.2.2⟩⟩⟩, hk.1⟩)) hg hat); have n2_ := Aside0.mk (blk_grown (g := gb214) (o := .cells #[.int .i64 0, .slice none 0 0] 25 (0, 0)) (by (with_reducible repeat (first | refine blk_drewN ?_ _ | refine blk_drew ?_ | refine blk_alloc ?_ _)); exact BK214.out) hg (Kd.R_ne HO_218001.out BK214.out (by decide))); have n3_ := Aside0.mk (blk_grown (g := gb217) (o := .cells #[.int .i64 ji3, u218001] 25 (0, 0)) (by (with_reducible repeat (first | refine blk_drewN ?_ _ | refine blk_drew ?_ | refine blk_alloc ?_ _)); exact BK217.out) hg (Kd.R_ne HO_218001.out BK217.out (by decide))); have n4_ := Aside0.mk (blk_grown (g := gb239) (o := .cells #[.int .i64 (rd (rd_L1 y230 (ji3)) x30_2), .string x240001_3] 27 (0, 0)) (by (with_reducible repeat (first | refine blk_drewN ?_ _ | refine blk_drew ?_ | refine blk_alloc ?_ _)); exact BK239.out) hg (Kd.R_away HO_218001.out (fun _ hk => hk))); have n5_ := Aside0.mk (IsS74.grown (by repeat (first | (with_reducible first | exact HI0.out | apply IsS74.alloc | apply IsS74.drewN | apply IsS74.drew | apply IsS74.set_1 | refine IsS74.far ?_ NB0_214.out _ | refine IsS74.far ?_ NB0_217.out _ | refine IsS74.far ?_ NB0_239.out _) | exact HI0.out)) hg (IsS74.own_ne HI0.out HO_218001.out (by decide))); have n6_ := Aside0.mk (below_weaken (by repeat (first | (with_reducible first | exact HB.out | apply below_alloc | apply pw_below_drewN | apply below_drew1 | refine below_set ?_ (IsS74.ge HI0.out) | refine below_set ?_ GE214.out | refine below_set ?_ GE217.out | refine below_set ?_ GE239.out) | exact HB.out)) HL.out hb); have n7_ := Aside0.mk (KeepBut.trans (by repeat (first | (with_reducible first | exact HK.out | apply KeepBut.set_ | apply keep_drewN | apply keep_drew | apply keep_alloc | refine keep_far ?_ GW214.out _ | refine keep_far ?_ GW217.out _ | refine keep_far ?_ GW239.out _) | exact HK.out)) (KeepBut.of_grown hg g) (Kd.R_base2 HO_218001.out)); have n8_ := Aside0.mk (ho); clear HO_4; clear HO_28; clear BK214; clear BK217; clear BK239; clear HI0; clear HB; clear HK; clear HO_218001; have HO_4 := n0_; have HO_28 := n1_; have BK214 := n2_; have BK217 := n3_; have BK239 := n4_; have HI0 := n5_; have HB := n6_; have HK := n7_; have HO243 := n8_; clear n0_ n1_ n2_ n3_ n4_ n5_ n6_ n7_ n8_; clear ho hb hg hat; obtain ⟨Ao61, co61, eo61⟩ := Kd.R_slice HO243.out; subst eo61; have hcz62_0 : w60.cell? ⟨gb217, 0, none⟩ = some (.int .i64 ji3) := (blk_cell BK217.out 0).trans rfl; have hcz62_1 : w60.cell? ⟨gb217, 1, none⟩ = some (u218001) := (blk_cell BK217.out 1).trans rfl; have hfz62_0 := blk_frozen BK217.out 0; have hfz62_1 := blk_frozen BK217.out 1))
               go_roundg k3
               case measure => have := HK1.out; have := HK2.out; have := HK3.out; omega
               case rel => exact ⟨(wrap64 (x30_2 + 1)), (t238), (y241), (.slice Ao61 y241.length co61), (by first | rfl | (simp; done) | (simp [*]; done)), H', ⟨by have := HK1.out; have := HK2.out; have := HK3.out; omega⟩, ⟨by (with_reducible repeat (first | apply Kd.V_alloc | apply Kd.V_drewN | apply Kd.V_drew)); exact Kd.V_mono (Kd.V_far (p := ⟨gb217, 1, none⟩) (Kd.V_mono HO_4.out (fun k_ hk => (⟨hk, hk.1.2.1⟩ : _ ∧ k_ ≠ gb217))) (fun _ hk => hk.2) (.slice Ao61 y241.length co61)) (fun _ hk => ⟨hk.1.2, ⟨hk.1.1.1, ⟨hk.1.1.2.1, hk.1.1.2.2.2⟩⟩⟩)⟩, ⟨by (with_reducible repeat (first | apply Kd.V_alloc | apply Kd.V_drewN | apply Kd.V_drew)); exact Kd.V_mono (Kd.V_far (p := ⟨gb217, 1, none⟩) (Kd.V_mono HO_28.out (fun k_ hk => (⟨hk, hk.1.2.1⟩ : _ ∧ k_ ≠ gb217))) (fun _ hk => hk.2) (.slice Ao61 y241.length co61)) (fun _ hk => ⟨hk.1.2, ⟨hk.1.1.1, ⟨hk.1.1.2.1, hk.1.1.2.2.2⟩⟩⟩)⟩, ⟨by (with_reducible repeat (first | apply Kd.R_alloc | apply Kd.R_drewN | apply Kd.R_drew)); exact Kd.R_mono (Kd.R_far (p := ⟨gb217, 1, none⟩) (Kd.R_types HO243.out BK217.out (by decide)) (fun _ hk => hk.2) (.slice Ao61 y241.length co61)) (fun _ hk => trivial)⟩, ⟨by (with_reducible repeat (first | refine blk_drewN ?_ _ | refine blk_drew ?_ | refine blk_alloc ?_ _)); refine blk_far ?_ NB214_217.out _; (with_reducible repeat (first | refine blk_drewN ?_ _ | refine blk_drew ?_ | refine blk_alloc ?_ _)); exact BK214.out⟩, ⟨by (with_reducible repeat (first | refine blk_drewN ?_ _ | refine blk_drew ?_ | refine blk_alloc ?_ _)); refine blk_put (cs := #[.int .i64 ji3, u218001]) ?_ 1 _ rfl; (with_reducible repeat (first | refine blk_drewN ?_ _ | refine blk_drew ?_ | refine blk_alloc ?_ _)); exact BK217.out⟩, ⟨by repeat (first | (with_reducible first | exact HI0.out | apply IsS74.alloc | apply IsS74.drewN | apply IsS74.drew | apply IsS74.set_1 | refine IsS74.far ?_ NB0_214.out _ | refine IsS74.far ?_ NB0_217.out _ | refine IsS74.far ?_ NB0_239.out _) | exact HI0.out)⟩, ⟨by repeat (first | (with_reducible first | exact HK.out | apply KeepBut.set_ | apply keep_drewN | apply keep_drew | apply keep_alloc | refine keep_far ?_ GW214.out _ | refine keep_far ?_ GW217.out _ | refine keep_far ?_ GW239.out _) | exact HK.out)⟩, ⟨by repeat (first | (with_reducible first | exact HB.out | apply below_alloc | apply pw_below_drewN | apply below_drew1 | refine below_set ?_ (IsS74.ge HI0.out) | refine below_set ?_ GE214.out | refine below_set ?_ GE217.out | refine below_set ?_ GE239.out) | exact HB.out)⟩⟩
              ·rw [if_neg c50] at H
               exact absurd H (by simp)
          ·rw [if_neg c33] at H
           exact absurd H (by simp)
         ·rw [if_neg c32] at H
          exact absurd H (by simp)
        ·rw [if_neg c31] at H
         have c31b0 : decide (x30_2 < ((rd_L1 y230 (ji3)).length : Int)) = false := decide_eq_false c31
         clear c31
         have H' := Aside0.mk H
         clear H
         go_wp2
         go_roundg k2
         case measure => have := HK1.out; have := HK2.out; omega
         case rel => exact ⟨(wrap64 (x5_1 - 1)), (x1001_2), (x218001_2), (u218001), (by first | rfl | (simp; done) | (simp [*]; done)), H', ⟨by have := HK1.out; have := HK2.out; omega⟩, ⟨by (with_reducible repeat (first | apply Kd.V_alloc | apply Kd.V_drewN | apply Kd.V_drew)); exact HO_4.out⟩, ⟨by (with_reducible repeat (first | apply Kd.R_alloc | apply Kd.R_drewN | apply Kd.R_drew)); exact HO_218001.out⟩, ⟨by (with_reducible repeat (first | refine blk_drewN ?_ _ | refine blk_drew ?_ | refine blk_alloc ?_ _)); exact BK214.out⟩, ⟨by (with_reducible repeat (first | refine blk_drewN ?_ _ | refine blk_drew ?_ | refine blk_alloc ?_ _)); exact BK217.out⟩, ⟨by repeat (first | (with_reducible first | exact HI0.out | apply IsS74.alloc | apply IsS74.drewN | apply IsS74.drew | apply IsS74.set_1 | refine IsS74.far ?_ NB0_214.out _ | refine IsS74.far ?_ NB0_217.out _) | exact HI0.out)⟩, ⟨by repeat (first | (with_reducible first | exact HK.out | apply KeepBut.set_ | apply keep_drewN | apply keep_drew | apply keep_alloc | refine keep_far ?_ GW214.out _ | refine keep_far ?_ GW217.out _) | exact HK.out)⟩, ⟨by repeat (first | (with_reducible first | exact HB.out | apply below_alloc | apply pw_below_drewN | apply below_drew1 | refine below_set ?_ (IsS74.ge HI0.out) | refine below_set ?_ GE214.out | refine below_set ?_ GE217.out) | exact HB.out)⟩⟩
     ·rw [if_neg c30] at H
      have c30b0 : decide (0 < x5_1) = false := decide_eq_false c30
      clear c30
      replace H := Option.bind_eq_some_iff.mp H
      obtain ⟨⟨t244, t245⟩, A630, H⟩ := H
      replace H : (if t244 = 1 then ((keyeventkit_Dice_Next.f s0_0 t245 6).bind fun bt246 => (some (bt246.1, x218001_1, bt246.2))) else (some (ji3, x218001_1, t245))) = some (r1, r2, r3) := H
      have A63 := Aside0.mk A630
      clear A630
      by_cases c64 : t244 = 1
      ·rw [if_pos c64] at H
       have c64b0 : (t244 == 1) = true := beq_iff_eq.mpr c64
       have c64b1 : (t244 != 1) = false := bne_eq_false_iff_eq.mpr c64
       clear c64
       replace H := Option.bind_eq_some_iff.mp H
       obtain ⟨⟨t246, t247⟩, A650, H⟩ := H
       replace H : (some (t246, x218001_1, t247)) = some (r1, r2, r3) := H
       have A65 := Aside0.mk A650
       clear A650
       simp only [Option.some.injEq, Prod.mk.injEq] at H
       obtain ⟨rfl, rfl, rfl⟩ := H
       go_wp2_with (first | ((with_reducible refine gate_callee (f := 39) rfl ?_); refine goesL_ (some 56) rfl rfl Try.func39 (by kernel_rfl) rfl #[.pointer (some ⟨g, 0, none⟩), .int .i64 12] rfl (by (try simp only [List.map_toArray, List.map_cons, List.map_nil]); first | done | rfl | (simp only [List.length_drop, List.length_take]; rfl)) ?_; (with_reducible refine (keyeventkit_Dice_Next.calls g s0_0 x1001_1 12 t244 t245 w0 _ ?side1 ?side2 A63.out).mono ?_); (case side1 => repeat (first | (with_reducible first | exact HI0.out | apply IsS74.alloc | apply IsS74.drewN | apply IsS74.drew | apply IsS74.set_1 | refine IsS74.far ?_ NB0_214.out _ | refine IsS74.far ?_ NB0_217.out _) | exact HI0.out)); (case side2 => repeat (first | (with_reducible first | exact HB.out | apply below_alloc | apply pw_below_drewN | apply below_drew1 | refine below_set ?_ (IsS74.ge HI0.out) | refine below_set ?_ GE214.out | refine below_set ?_ GE217.out) | exact HB.out)); rintro e w66 ⟨rfl, hi, hb, hk⟩; refine ⟨_, rfl, ?_⟩; have n0_ := Aside0.mk (Kd.V_mono (Kd.V_keep (Kd.V_mono (ok := fun k_ => (some k_ ≠ (u218001 : Value).ownBlock ∧ (k_ ≠ gb214 ∧ (k_ ≠ gb217 ∧ k_ ≠ g)))) (by (with_reducible repeat (first | apply Kd.V_alloc | apply Kd.V_drewN | apply Kd.V_drew)); exact HO_4.out) (fun k_ hk_ => (⟨hk_, hk_.2.2.2⟩ : _ ∧ k_ ≠ g))) hk (fun _ h => h.2)) (fun _ h => h.1)); have n1_ := Aside0.mk (Kd.R_mono (Kd.R_keep (IsS74.apart (show IsS74 w0 _ g s0_0 x1001_1 from by repeat (first | (with_reducible first | exact HI0.out | apply IsS74.alloc | apply IsS74.drewN | apply IsS74.drew | apply IsS74.set_1 | refine IsS74.far ?_ NB0_214.out _ | refine IsS74.far ?_ NB0_217.out _) | exact HI0.out)) (by (with_reducible repeat (first | apply Kd.R_alloc | apply Kd.R_drewN | apply Kd.R_drew)); exact HO_218001.out) (by decide)) hk (fun _ h => h.2)) (fun _ h => h.1)); have n2_ := Aside0.mk (KeepBut.blk hk (g' := gb214) (o := .cells #[.int .i64 0, .slice none 0 0] 25 (0, 0)) (by (with_reducible repeat (first | refine blk_drewN ?_ _ | refine blk_drew ?_ | refine blk_alloc ?_ _)); exact BK214.out) NB214_0.out (by simp)); have n3_ := Aside0.mk (KeepBut.blk hk (g' := gb217) (o := .cells #[.int .i64 ji3, u218001] 25 (0, 0)) (by (with_reducible repeat (first | refine blk_drewN ?_ _ | refine blk_drew ?_ | refine blk_alloc ?_ _)); exact BK217.out) NB217_0.out (by simp)); have n4_ := Aside0.mk (KeepBut.trans (by repeat (first | (with_reducible first | exact HK.out | apply KeepBut.set_ | apply keep_drewN | apply keep_drew | apply keep_alloc | refine keep_far ?_ GW214.out _ | refine keep_far ?_ GW217.out _) | exact HK.out)) hk (.inl rfl)); have n5_ := Aside0.mk (hb); have n6_ := Aside0.mk (hi); clear HO_4; clear HO_218001; clear BK214; clear BK217; clear HK; clear HB; clear HI0; have HO_4 := n0_; have HO_218001 := n1_; have BK214 := n2_; have BK217 := n3_; have HK := n4_; have HB := n5_; have HI0 := n6_; clear n0_ n1_ n2_ n3_ n4_ n5_ n6_; (try clear hb); (try clear hb2); (try clear hk); (try clear hi)) | ((with_reducible refine gate_callee (f := 39) rfl ?_); refine goesL_ (some 59) rfl rfl Try.func39 (by kernel_rfl) rfl #[.pointer (some ⟨g, 0, none⟩), .int .i64 6] rfl (by (try simp only [List.map_toArray, List.map_cons, List.map_nil]); first | done | rfl | (simp only [List.length_drop, List.length_take]; rfl)) ?_; (with_reducible refine (keyeventkit_Dice_Next.calls g s0_0 t245 6 t246 t247 w0 _ ?side1 ?side2 A65.out).mono ?_); (case side1 => repeat (first | (with_reducible first | exact HI0.out | apply IsS74.alloc | apply IsS74.drewN | apply IsS74.drew | apply IsS74.set_1 | refine IsS74.far ?_ NB0_214.out _ | refine IsS74.far ?_ NB0_217.out _) | exact HI0.out)); (case side2 => repeat (first | (with_reducible first | exact HB.out | apply below_alloc | apply pw_below_drewN | apply below_drew1 | refine below_set ?_ (IsS74.ge HI0.out) | refine below_set ?_ GE214.out | refine below_set ?_ GE217.out) | exact HB.out)); rintro e w67 ⟨rfl, hi, hb, hk⟩; refine ⟨_, rfl, ?_⟩; have n0_ := Aside0.mk (Kd.V_mono (Kd.V_keep (Kd.V_mono (ok := fun k_ => (some k_ ≠ (u218001 : Value).ownBlock ∧ (k_ ≠ gb214 ∧ (k_ ≠ gb217 ∧ k_ ≠ g)))) (by (with_reducible repeat (first | apply Kd.V_alloc | apply Kd.V_drewN | apply Kd.V_drew)); exact HO_4.out) (fun k_ hk_ => (⟨hk_, hk_.2.2.2⟩ : _ ∧ k_ ≠ g))) hk (fun _ h => h.2)) (fun _ h => h.1)); have n1_ := Aside0.mk (Kd.R_mono (Kd.R_keep (IsS74.apart (show IsS74 w0 _ g s0_0 t245 from by repeat (first | (with_reducible first | exact HI0.out | apply IsS74.alloc | apply IsS74.drewN | apply IsS74.drew | apply IsS74.set_1 | refine IsS74.far ?_ NB0_214.out _ | refine IsS74.far ?_ NB0_217.out _) | exact HI0.out)) (by (with_reducible repeat (first | apply Kd.R_alloc | apply Kd.R_drewN | apply Kd.R_drew)); exact HO_218001.out) (by decide)) hk (fun _ h => h.2)) (fun _ h => h.1)); have n2_ := Aside0.mk (KeepBut.blk hk (g' := gb214) (o := .cells #[.int .i64 0, .slice none 0 0] 25 (0, 0)) (by (with_reducible repeat (first | refine blk_drewN ?_ _ | refine blk_drew ?_ | refine blk_alloc ?_ _)); exact BK214.out) NB214_0.out (by simp)); have n3_ := Aside0.mk (KeepBut.blk hk (g' := gb217) (o := .cells #[.int .i64 ji3, u218001] 25 (0, 0)) (by (with_reducible repeat (first | refine blk_drewN ?_ _ | refine blk_drew ?_ | refine blk_alloc ?_ _)); exact BK217.out) NB217_0.out (by simp)); have n4_ := Aside0.mk (KeepBut.trans (by repeat (first | (with_reducible first | exact HK.out | apply KeepBut.set_ | apply keep_drewN | apply keep_drew | apply keep_alloc | refine keep_far ?_ GW214.out _ | refine keep_far ?_ GW217.out _) | exact HK.out)) hk (.inl rfl)); have n5_ := Aside0.mk (hb); have n6_ := Aside0.mk (hi); clear HO_4; clear HO_218001; clear BK214; clear BK217; clear HK; clear HB; clear HI0; have HO_4 := n0_; have HO_218001 := n1_; have BK214 := n2_; have BK217 := n3_; have HK := n4_; have HB := n5_; have HI0 := n6_; clear n0_ n1_ n2_ n3_ n4_ n5_ n6_; (try clear hb); (try clear hb2); (try clear hk); (try clear hi); have hnb68 := NB217_214.out; have hnc68 := NB214_217.out; have hnb69 := NB217_0.out; have hnc69 := NB0_217.out; have hcz70_0 : w67.cell? ⟨gb217, 0, none⟩ = some (.int .i64 ji3) := (blk_cell BK217.out 0).trans rfl; have hcz70_1 : w67.cell? ⟨gb217, 1, none⟩ = some (u218001) := (blk_cell BK217.out 1).trans rfl; have hfz70_0 := blk_frozen BK217.out 0; have hfz70_1 := blk_frozen BK217.out 1; have hnb71 := NB214_0.out; have hnc71 := NB0_214.out; have hcz72_0 : w67.cell? ⟨gb214, 0, none⟩ = some (.int .i64 0) := (blk_cell BK214.out 0).trans rfl; have hcz72_1 : w67.cell? ⟨gb214, 1, none⟩ = some (.slice none 0 0) := (blk_cell BK214.out 1).trans rfl; have hfz72_0 := blk_frozen BK214.out 0; have hfz72_1 := blk_frozen BK214.out 1; obtain ⟨Ao73, co73, eo73⟩ := Kd.R_slice HO_218001.out; subst eo73))
       refine bodyPost_ret (results_cell_row rfl _ _ gb214 25 #[.int .i64 t246, .slice Ao73 x218001_1.length co73] (0, 0) _ rfl (by (with_reducible repeat (first | refine blk_drewN ?_ _ | refine blk_drew ?_ | refine blk_alloc ?_ _)); refine blk_put (cs := #[.int .i64 t246, .slice none 0 0]) ?_ 1 _ rfl; (with_reducible repeat (first | refine blk_drewN ?_ _ | refine blk_drew ?_ | refine blk_alloc ?_ _)); refine blk_put (cs := #[.int .i64 0, .slice none 0 0]) ?_ 0 _ rfl; (with_reducible repeat (first | refine blk_drewN ?_ _ | refine blk_drew ?_ | refine blk_alloc ?_ _)); refine blk_far ?_ NB214_217.out _; (with_reducible repeat (first | refine blk_drewN ?_ _ | refine blk_drew ?_ | refine blk_alloc ?_ _)); exact BK214.out) Try.underlying25 rfl (by kernel_rfl)) rfl ?_
       exact ⟨_, by first | rfl | (simp [errW_none, errW_some] <;> rfl) | (simp only [← hji3]; first | rfl | (simp [errW_none, errW_some] <;> rfl)) | (simp [*, errW_none, errW_some] <;> rfl), by (with_reducible repeat (first | apply Kd.R_alloc | apply Kd.R_drewN | apply Kd.R_drew)); exact Kd.R_mono (Kd.R_far (p := ⟨gb214, 1, none⟩) (Kd.R_far (p := ⟨gb214, 0, none⟩) (Kd.R_far (p := ⟨gb217, 0, none⟩) (Kd.R_types (Kd.R_types HO_218001.out BK217.out (by decide)) BK214.out (by decide)) (fun _ hk => hk.1.2) (.int .i64 t246)) (fun _ hk => hk.2) (.int .i64 t246)) (fun _ hk => hk.2) (.slice Ao73 x218001_1.length co73)) (fun _ hk => trivial), by repeat (first | (with_reducible first | exact HI0.out | apply IsS74.alloc | apply IsS74.drewN | apply IsS74.drew | apply IsS74.set_1 | refine IsS74.far ?_ NB0_214.out _ | refine IsS74.far ?_ NB0_217.out _) | exact HI0.out), by repeat (first | (with_reducible first | exact HB.out | apply below_alloc | apply pw_below_drewN | apply below_drew1 | refine below_set ?_ (IsS74.ge HI0.out) | refine below_set ?_ GE214.out | refine below_set ?_ GE217.out) | exact HB.out), by repeat (first | (with_reducible first | exact HK.out | apply KeepBut.set_ | apply keep_drewN | apply keep_drew | apply keep_alloc | refine keep_far ?_ GW214.out _ | refine keep_far ?_ GW217.out _) | exact HK.out)⟩
      ·rw [if_neg c64] at H
       have c64b0 : (t244 == 1) = false := beq_eq_false_iff_ne.mpr c64
       have c64b1 : (t244 != 1) = true := bne_iff_ne.mpr c64
       simp only [Option.some.injEq, Prod.mk.injEq] at H
       obtain ⟨rfl, rfl, rfl⟩ := H
       go_wp2_with (first | ((with_reducible refine gate_callee (f := 39) rfl ?_); refine goesL_ (some 56) rfl rfl Try.func39 (by kernel_rfl) rfl #[.pointer (some ⟨g, 0, none⟩), .int .i64 12] rfl (by (try simp only [List.map_toArray, List.map_cons, List.map_nil]); first | done | rfl | (simp only [List.length_drop, List.length_take]; rfl)) ?_; (with_reducible refine (keyeventkit_Dice_Next.calls g s0_0 x1001_1 12 t244 t245 w0 _ ?side1 ?side2 A63.out).mono ?_); (case side1 => repeat (first | (with_reducible first | exact HI0.out | apply IsS74.alloc | apply IsS74.drewN | apply IsS74.drew | apply IsS74.set_1 | refine IsS74.far ?_ NB0_214.out _ | refine IsS74.far ?_ NB0_217.out _) | exact HI0.out)); (case side2 => repeat (first | (with_reducible first | exact HB.out | apply below_alloc | apply pw_below_drewN | apply below_drew1 | refine below_set ?_ (IsS74.ge HI0.out) | refine below_set ?_ GE214.out | refine below_set ?_ GE217.out) | exact HB.out)); rintro e w74 ⟨rfl, hi, hb, hk⟩; refine ⟨_, rfl, ?_⟩; have n0_ := Aside0.mk (Kd.V_mono (Kd.V_keep (Kd.V_mono (ok := fun k_ => (some k_ ≠ (u218001 : Value).ownBlock ∧ (k_ ≠ gb214 ∧ (k_ ≠ gb217 ∧ k_ ≠ g)))) (by (with_reducible repeat (first | apply Kd.V_alloc | apply Kd.V_drewN | apply Kd.V_drew)); exact HO_4.out) (fun k_ hk_ => (⟨hk_, hk_.2.2.2⟩ : _ ∧ k_ ≠ g))) hk (fun _ h => h.2)) (fun _ h => h.1)); have n1_ := Aside0.mk (Kd.R_mono (Kd.R_keep (IsS74.apart (show IsS74 w0 _ g s0_0 x1001_1 from by repeat (first | (with_reducible first | exact HI0.out | apply IsS74.alloc | apply IsS74.drewN | apply IsS74.drew | apply IsS74.set_1 | refine IsS74.far ?_ NB0_214.out _ | refine IsS74.far ?_ NB0_217.out _) | exact HI0.out)) (by (with_reducible repeat (first | apply Kd.R_alloc | apply Kd.R_drewN | apply Kd.R_drew)); exact HO_218001.out) (by decide)) hk (fun _ h => h.2)) (fun _ h => h.1)); have n2_ := Aside0.mk (KeepBut.blk hk (g' := gb214) (o := .cells #[.int .i64 0, .slice none 0 0] 25 (0, 0)) (by (with_reducible repeat (first | refine blk_drewN ?_ _ | refine blk_drew ?_ | refine blk_alloc ?_ _)); exact BK214.out) NB214_0.out (by simp)); have n3_ := Aside0.mk (KeepBut.blk hk (g' := gb217) (o := .cells #[.int .i64 ji3, u218001] 25 (0, 0)) (by (with_reducible repeat (first | refine blk_drewN ?_ _ | refine blk_drew ?_ | refine blk_alloc ?_ _)); exact BK217.out) NB217_0.out (by simp)); have n4_ := Aside0.mk (KeepBut.trans (by repeat (first | (with_reducible first | exact HK.out | apply KeepBut.set_ | apply keep_drewN | apply keep_drew | apply keep_alloc | refine keep_far ?_ GW214.out _ | refine keep_far ?_ GW217.out _) | exact HK.out)) hk (.inl rfl)); have n5_ := Aside0.mk (hb); have n6_ := Aside0.mk (hi); clear HO_4; clear HO_218001; clear BK214; clear BK217; clear HK; clear HB; clear HI0; have HO_4 := n0_; have HO_218001 := n1_; have BK214 := n2_; have BK217 := n3_; have HK := n4_; have HB := n5_; have HI0 := n6_; clear n0_ n1_ n2_ n3_ n4_ n5_ n6_; (try clear hb); (try clear hb2); (try clear hk); (try clear hi); have hnb75 := NB217_214.out; have hnc75 := NB214_217.out; have hnb76 := NB217_0.out; have hnc76 := NB0_217.out; have hcz77_0 : w74.cell? ⟨gb217, 0, none⟩ = some (.int .i64 ji3) := (blk_cell BK217.out 0).trans rfl; have hcz77_1 : w74.cell? ⟨gb217, 1, none⟩ = some (u218001) := (blk_cell BK217.out 1).trans rfl; have hfz77_0 := blk_frozen BK217.out 0; have hfz77_1 := blk_frozen BK217.out 1; have hnb78 := NB214_0.out; have hnc78 := NB0_214.out; have hcz79_0 : w74.cell? ⟨gb214, 0, none⟩ = some (.int .i64 0) := (blk_cell BK214.out 0).trans rfl; have hcz79_1 : w74.cell? ⟨gb214, 1, none⟩ = some (.slice none 0 0) := (blk_cell BK214.out 1).trans rfl; have hfz79_0 := blk_frozen BK214.out 0; have hfz79_1 := blk_frozen BK214.out 1; obtain ⟨Ao80, co80, eo80⟩ := Kd.R_slice HO_218001.out; subst eo80))
       refine bodyPost_ret (results_cell_row rfl _ _ gb214 25 #[.int .i64 ji3, .slice Ao80 x218001_1.length co80] (0, 0) _ rfl (by (with_reducible repeat (first | refine blk_drewN ?_ _ | refine blk_drew ?_ | refine blk_alloc ?_ _)); refine blk_put (cs := #[.int .i64 ji3, .slice none 0 0]) ?_ 1 _ rfl; (with_reducible repeat (first | refine blk_drewN ?_ _ | refine blk_drew ?_ | refine blk_alloc ?_ _)); refine blk_put (cs := #[.int .i64 0, .slice none 0 0]) ?_ 0 _ rfl; (with_reducible repeat (first | refine blk_drewN ?_ _ | refine blk_drew ?_ | refine blk_alloc ?_ _)); exact BK214.out) Try.underlying25 rfl (by kernel_rfl)) rfl ?_
       exact ⟨_, by first | rfl | (simp [errW_none, errW_some] <;> rfl) | (simp only [← hji3]; first | rfl | (simp [errW_none, errW_some] <;> rfl)) | (simp [*, errW_none, errW_some] <;> rfl), by (with_reducible repeat (first | apply Kd.R_alloc | apply Kd.R_drewN | apply Kd.R_drew)); exact Kd.R_mono (Kd.R_far (p := ⟨gb214, 1, none⟩) (Kd.R_far (p := ⟨gb214, 0, none⟩) (Kd.R_types HO_218001.out BK214.out (by decide)) (fun _ hk => hk.2) (.int .i64 ji3)) (fun _ hk => hk.2) (.slice Ao80 x218001_1.length co80)) (fun _ hk => trivial), by repeat (first | (with_reducible first | exact HI0.out | apply IsS74.alloc | apply IsS74.drewN | apply IsS74.drew | apply IsS74.set_1 | refine IsS74.far ?_ NB0_214.out _ | refine IsS74.far ?_ NB0_217.out _) | exact HI0.out), by repeat (first | (with_reducible first | exact HB.out | apply below_alloc | apply pw_below_drewN | apply below_drew1 | refine below_set ?_ (IsS74.ge HI0.out) | refine below_set ?_ GE214.out | refine below_set ?_ GE217.out) | exact HB.out), by repeat (first | (with_reducible first | exact HK.out | apply KeepBut.set_ | apply keep_drewN | apply keep_drew | apply keep_alloc | refine keep_far ?_ GW214.out _ | refine keep_far ?_ GW217.out _) | exact HK.out)⟩
  ·rw [if_neg c5] at H
   exact absurd H (by simp)
 ·rw [if_neg c4] at H
  exact absurd H (by simp)

end Go.Proofs.Ytookjdhfpbmjkaa.X
