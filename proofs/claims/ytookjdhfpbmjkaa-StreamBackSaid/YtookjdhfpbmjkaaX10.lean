-- Written by xprint.py, a program of this repo that leads the kit's print.py: Lean checks it.
import Derived.Test.YtookjdhfpbmjkaaX0
import Derived.Test.YtookjdhfpbmjkaaX1
import Derived.Test.YtookjdhfpbmjkaaX2
import Derived.Test.YtookjdhfpbmjkaaX5
import Derived.Test.YtookjdhfpbmjkaaX9
namespace Go.Proofs.Ytookjdhfpbmjkaa.X
open Go.RowKit Go.Proofs.YtookjdhfpbmjkaaW.PrintWords Go.Proofs.YtookjdhfpbmjkaaW.PrintLast Go.Proofs.YtookjdhfpbmjkaaW.PrintMore
attribute [local go_sem] max2_int min2_int max_two min_two max_three min_three max_four min_four   -- for this text's walks alone
set_option linter.unusedVariables false
set_option linter.unusedSimpArgs false

attribute [local go_sem high] eqA27
/-! ### stream_Decode: function 10 -/
def stream_Decode.f (k : Nat) (a0 : ByteArray) : Option ((List (S25)) × Int) := (stream_read.f k a0).bind fun bt192 => (if bt192.2.2 = 0 then (if bt192.2.1.toList = ([] : List UInt8) then ((stream_primitives.f k bt192.1).bind fun t197 => (if t197 > 1024 then (some (([] : List (S25)), 3)) else (some (bt192.1, 0)))) else (some (([] : List (S25)), 4))) else (some (([] : List (S25)), bt192.2.2)))
theorem stream_Decode.mono : ∀ a0 k, LeO (stream_Decode.f k a0) (stream_Decode.f (k + 1) a0) := by
  intro a0 k
  unfold stream_Decode.f
  repeat' first
      | (with_reducible exact stream_primitives.mono _ _)
      | (with_reducible exact stream_read.mono _ _)
      | (with_reducible exact LeO.refl _)
      | (with_reducible exact LeO.none _)
      | (with_reducible refine LeO.ite ?_ ?_)
      | (with_reducible refine LeO.bind ?_ (fun _ => ?_))
      | exact stream_primitives.mono _ _
      | exact stream_read.mono _ _
      | exact LeO.none _
      | refine LeO.ite ?_ ?_
      | refine LeO.bind ?_ (fun _ => ?_)
set_option maxHeartbeats 8000000 in
set_option maxRecDepth 100000 in
theorem stream_Decode.calls (k : Nat) (a0 : ByteArray) (r1 : List (S25)) (r2 : Int) (w : World) (h : stream_Decode.f k a0 = some (r1, r2)) :
    Calls Try.prog 10 #[.string a0] w fun e w' => ∃ v0_ : Value, e = .returned (.tuple #[v0_, .int .i64 r2]) ∧ Kd.S k25 25 w' w.heap.size (fun _ => True) v0_ r1 ∧ Below w.heap.size w w' := by
 have HB := Aside0.mk (Below.refl w.heap.size w)
 have H : ((stream_read.f k a0).bind fun bt192 => (if bt192.2.2 = 0 then (if bt192.2.1.toList = ([] : List UInt8) then ((stream_primitives.f k bt192.1).bind fun t197 => (if t197 > 1024 then (some (([] : List (S25)), 3)) else (some (bt192.1, 0)))) else (some (([] : List (S25)), 4))) else (some (([] : List (S25)), bt192.2.2)))) = some (r1, r2) := h
 clear h
 replace H := Option.bind_eq_some_iff.mp H
 obtain ⟨⟨t192, t193, t194⟩, A20, H⟩ := H
 replace H : (if t194 = 0 then (if t193.toList = ([] : List UInt8) then ((stream_primitives.f k t192).bind fun t197 => (if t197 > 1024 then (some (([] : List (S25)), 3)) else (some (t192, 0)))) else (some (([] : List (S25)), 4))) else (some (([] : List (S25)), t194))) = some (r1, r2) := H
 have A2 := Aside0.mk A20
 clear A20
 by_cases c3 : t194 = 0
 ·rw [if_pos c3] at H
  have c3b0 : (t194 == 0) = true := beq_iff_eq.mpr c3
  have c3b1 : (t194 != 0) = false := bne_eq_false_iff_eq.mpr c3
  clear c3
  by_cases c4 : t193.toList = ([] : List UInt8)
  ·rw [if_pos c4] at H
   have c4b0 : (t193.toList == ([] : List UInt8)) = true := beq_iff_eq.mpr c4
   have c4b1 : (t193.toList != ([] : List UInt8)) = false := bne_eq_false_iff_eq.mpr c4
   clear c4
   replace H := Option.bind_eq_some_iff.mp H
   obtain ⟨t197, A50, H⟩ := H
   replace H : (if t197 > 1024 then (some (([] : List (S25)), 3)) else (some (t192, 0))) = some (r1, r2) := H
   have A5 := Aside0.mk A50
   clear A50
   by_cases c6 : t197 > 1024
   ·rw [if_pos c6] at H
    have c6b0 : decide (1024 < t197) = true := decide_eq_true c6
    clear c6
    simp only [Option.some.injEq, Prod.mk.injEq] at H
    obtain ⟨rfl, rfl⟩ := H
    go_enter Try.func10, Try.ntmps10
    go_wp2_with (first | ((with_reducible refine gate_callee (f := 37) rfl ?_); refine goesL_ (some 9) rfl rfl Try.func37 (by kernel_rfl) rfl #[.string a0] rfl (by (try simp only [List.map_toArray, List.map_cons, List.map_nil]); first | done | rfl | (simp only [List.length_drop, List.length_take]; rfl)) ?_; (with_reducible refine (stream_read.calls k a0 t192 t193 t194 _ A2.out).mono ?_); rintro e w7 ⟨v195, rfl, ho0, hb⟩; refine ⟨_, rfl, ?_⟩; have n0_ := Aside0.mk (Kd.S_lower ho0 (below_size (by repeat (first | (with_reducible first | exact HB.out | apply below_alloc | apply pw_below_drewN | apply below_drew1) | exact HB.out)))); have n1_ := Aside0.mk (below_step (by repeat (first | (with_reducible first | exact HB.out | apply below_alloc | apply pw_below_drewN | apply below_drew1) | exact HB.out)) hb); clear HB; have HO196 := n0_; have HB := n1_; clear n0_ n1_; (try clear hb); (try clear hb2); (try clear hk); (try clear hi); (try clear ho0); obtain ⟨Ao8, co8, eo8⟩ := Kd.S_slice HO196.out; subst eo8) | ((with_reducible refine gate_callee (f := 28) rfl ?_); refine goesL_ (some 22) rfl rfl Try.func28 (by kernel_rfl) rfl #[.slice Ao8 t192.length co8] rfl (by (try simp only [List.map_toArray, List.map_cons, List.map_nil]); first | done | rfl | (simp only [List.length_drop, List.length_take]; rfl)) ?_; (with_reducible refine (stream_primitives.calls k _ _ t192 t197 _ ?side1 ?side2 A5.out).mono ?_); (case side1 => repeat (first | exact (Kd.S_reads' HO196.out).2.2 | (with_reducible refine Kd.C_alloc ?_ _) | (with_reducible refine Kd.C_drewN ?_ _) | (with_reducible refine Kd.C_drew ?_))); (case side2 => exact (Kd.S_reads' HO196.out).2.1); rintro e w9 ⟨rfl, hb⟩; refine ⟨_, rfl, ?_⟩; have n0_ := Aside0.mk (Kd.S_below (by (with_reducible repeat (first | apply Kd.S_alloc | apply Kd.S_drewN | apply Kd.S_drew)); exact HO196.out) hb); have n1_ := Aside0.mk (below_step (by repeat (first | (with_reducible first | exact HB.out | apply below_alloc | apply pw_below_drewN | apply below_drew1) | exact HB.out)) hb); clear HO196; clear HB; have HO196 := n0_; have HB := n1_; clear n0_ n1_; (try clear hb); (try clear hb2); (try clear hk); (try clear hi)))
    go_ret2
    exact ⟨_, by first | rfl | (simp [errW_none, errW_some] <;> rfl) | (simp [*, errW_none, errW_some] <;> rfl), by first | exact Kd.S_nil _ _ _ _ _ | exact Kd.N_nil _ _ _ _ _ | exact Kd.V_nil _ _ _ _ _ | exact Kd.Q_nil _ _ _ _ _ | exact Kd.R_nil _ _ _ _ _, by repeat (first | (with_reducible first | exact HB.out | apply below_alloc | apply pw_below_drewN | apply below_drew1) | exact HB.out)⟩
   ·rw [if_neg c6] at H
    have c6b0 : decide (1024 < t197) = false := decide_eq_false c6
    clear c6
    simp only [Option.some.injEq, Prod.mk.injEq] at H
    obtain ⟨rfl, rfl⟩ := H
    go_enter Try.func10, Try.ntmps10
    go_wp2_with (first | ((with_reducible refine gate_callee (f := 37) rfl ?_); refine goesL_ (some 9) rfl rfl Try.func37 (by kernel_rfl) rfl #[.string a0] rfl (by (try simp only [List.map_toArray, List.map_cons, List.map_nil]); first | done | rfl | (simp only [List.length_drop, List.length_take]; rfl)) ?_; (with_reducible refine (stream_read.calls k a0 t192 t193 t194 _ A2.out).mono ?_); rintro e w10 ⟨v195, rfl, ho0, hb⟩; refine ⟨_, rfl, ?_⟩; have n0_ := Aside0.mk (Kd.S_lower ho0 (below_size (by repeat (first | (with_reducible first | exact HB.out | apply below_alloc | apply pw_below_drewN | apply below_drew1) | exact HB.out)))); have n1_ := Aside0.mk (below_step (by repeat (first | (with_reducible first | exact HB.out | apply below_alloc | apply pw_below_drewN | apply below_drew1) | exact HB.out)) hb); clear HB; have HO196 := n0_; have HB := n1_; clear n0_ n1_; (try clear hb); (try clear hb2); (try clear hk); (try clear hi); (try clear ho0); obtain ⟨Ao11, co11, eo11⟩ := Kd.S_slice HO196.out; subst eo11) | ((with_reducible refine gate_callee (f := 28) rfl ?_); refine goesL_ (some 22) rfl rfl Try.func28 (by kernel_rfl) rfl #[.slice Ao11 t192.length co11] rfl (by (try simp only [List.map_toArray, List.map_cons, List.map_nil]); first | done | rfl | (simp only [List.length_drop, List.length_take]; rfl)) ?_; (with_reducible refine (stream_primitives.calls k _ _ t192 t197 _ ?side1 ?side2 A5.out).mono ?_); (case side1 => repeat (first | exact (Kd.S_reads' HO196.out).2.2 | (with_reducible refine Kd.C_alloc ?_ _) | (with_reducible refine Kd.C_drewN ?_ _) | (with_reducible refine Kd.C_drew ?_))); (case side2 => exact (Kd.S_reads' HO196.out).2.1); rintro e w12 ⟨rfl, hb⟩; refine ⟨_, rfl, ?_⟩; have n0_ := Aside0.mk (Kd.S_below (by (with_reducible repeat (first | apply Kd.S_alloc | apply Kd.S_drewN | apply Kd.S_drew)); exact HO196.out) hb); have n1_ := Aside0.mk (below_step (by repeat (first | (with_reducible first | exact HB.out | apply below_alloc | apply pw_below_drewN | apply below_drew1) | exact HB.out)) hb); clear HO196; clear HB; have HO196 := n0_; have HB := n1_; clear n0_ n1_; (try clear hb); (try clear hb2); (try clear hk); (try clear hi)))
    go_ret2
    exact ⟨_, by first | rfl | (simp [errW_none, errW_some] <;> rfl) | (simp [*, errW_none, errW_some] <;> rfl), by (with_reducible repeat (first | apply Kd.S_alloc | apply Kd.S_drewN | apply Kd.S_drew)); exact HO196.out, by repeat (first | (with_reducible first | exact HB.out | apply below_alloc | apply pw_below_drewN | apply below_drew1) | exact HB.out)⟩
  ·rw [if_neg c4] at H
   have c4b0 : (t193.toList == ([] : List UInt8)) = false := beq_eq_false_iff_ne.mpr c4
   have c4b1 : (t193.toList != ([] : List UInt8)) = true := bne_iff_ne.mpr c4
   simp only [Option.some.injEq, Prod.mk.injEq] at H
   obtain ⟨rfl, rfl⟩ := H
   go_enter Try.func10, Try.ntmps10
   go_wp2_with (first | ((with_reducible refine gate_callee (f := 37) rfl ?_); refine goesL_ (some 9) rfl rfl Try.func37 (by kernel_rfl) rfl #[.string a0] rfl (by (try simp only [List.map_toArray, List.map_cons, List.map_nil]); first | done | rfl | (simp only [List.length_drop, List.length_take]; rfl)) ?_; (with_reducible refine (stream_read.calls k a0 t192 t193 t194 _ A2.out).mono ?_); rintro e w13 ⟨v195, rfl, ho0, hb⟩; refine ⟨_, rfl, ?_⟩; have n0_ := Aside0.mk (Kd.S_lower ho0 (below_size (by repeat (first | (with_reducible first | exact HB.out | apply below_alloc | apply pw_below_drewN | apply below_drew1) | exact HB.out)))); have n1_ := Aside0.mk (below_step (by repeat (first | (with_reducible first | exact HB.out | apply below_alloc | apply pw_below_drewN | apply below_drew1) | exact HB.out)) hb); clear HB; have HO196 := n0_; have HB := n1_; clear n0_ n1_; (try clear hb); (try clear hb2); (try clear hk); (try clear hi); (try clear ho0)))
   go_ret2
   exact ⟨_, by first | rfl | (simp [errW_none, errW_some] <;> rfl) | (simp [*, errW_none, errW_some] <;> rfl), by first | exact Kd.S_nil _ _ _ _ _ | exact Kd.N_nil _ _ _ _ _ | exact Kd.V_nil _ _ _ _ _ | exact Kd.Q_nil _ _ _ _ _ | exact Kd.R_nil _ _ _ _ _, by repeat (first | (with_reducible first | exact HB.out | apply below_alloc | apply pw_below_drewN | apply below_drew1) | exact HB.out)⟩
 ·rw [if_neg c3] at H
  have c3b0 : (t194 == 0) = false := beq_eq_false_iff_ne.mpr c3
  have c3b1 : (t194 != 0) = true := bne_iff_ne.mpr c3
  simp only [Option.some.injEq, Prod.mk.injEq] at H
  obtain ⟨rfl, rfl⟩ := H
  go_enter Try.func10, Try.ntmps10
  go_wp2_with (first | ((with_reducible refine gate_callee (f := 37) rfl ?_); refine goesL_ (some 9) rfl rfl Try.func37 (by kernel_rfl) rfl #[.string a0] rfl (by (try simp only [List.map_toArray, List.map_cons, List.map_nil]); first | done | rfl | (simp only [List.length_drop, List.length_take]; rfl)) ?_; (with_reducible refine (stream_read.calls k a0 t192 t193 t194 _ A2.out).mono ?_); rintro e w14 ⟨v195, rfl, ho0, hb⟩; refine ⟨_, rfl, ?_⟩; have n0_ := Aside0.mk (Kd.S_lower ho0 (below_size (by repeat (first | (with_reducible first | exact HB.out | apply below_alloc | apply pw_below_drewN | apply below_drew1) | exact HB.out)))); have n1_ := Aside0.mk (below_step (by repeat (first | (with_reducible first | exact HB.out | apply below_alloc | apply pw_below_drewN | apply below_drew1) | exact HB.out)) hb); clear HB; have HO196 := n0_; have HB := n1_; clear n0_ n1_; (try clear hb); (try clear hb2); (try clear hk); (try clear hi); (try clear ho0)))
  go_ret2
  exact ⟨_, by first | rfl | (simp [errW_none, errW_some] <;> rfl) | (simp [*, errW_none, errW_some] <;> rfl), by first | exact Kd.S_nil _ _ _ _ _ | exact Kd.N_nil _ _ _ _ _ | exact Kd.V_nil _ _ _ _ _ | exact Kd.Q_nil _ _ _ _ _ | exact Kd.R_nil _ _ _ _ _, by repeat (first | (with_reducible first | exact HB.out | apply below_alloc | apply pw_below_drewN | apply below_drew1) | exact HB.out)⟩

/-! ### keyeventref04_Same: function 12 -/
mutual
def keyeventref04_Same.l0 : Nat → List (S25) → List (S25) → Int → Int → Option (Bool)
  | 0, _, _, _, _ => none
  | k + 1, x1, x14, x15, x16 => if x16 < x15 then (if 0 ≤ x16 then (if x16 < (x14.length : Int) then (if x16 < (x1.length : Int) then (if ((rd_T25 x14 x16).f0) = ((rd_T25 x1 x16).f0) then (keyeventref04_Same.j1 k x1 x16 x14 x15 x16 ((((rd_T25 x14 x16).f1).length : Int) != (((rd_T25 x1 x16).f1).length : Int)) ((rd_T25 x14 x16).f0) ((rd_T25 x14 x16).f1)) else (keyeventref04_Same.j1 k x1 x16 x14 x15 x16 true ((rd_T25 x14 x16).f0) ((rd_T25 x14 x16).f1))) else (none)) else (none)) else (none)) else (some true)
def keyeventref04_Same.j1 : Nat → List (S25) → Int → List (S25) → Int → Int → Bool → Int → List (S27) → Option (Bool)
  | 0, _, _, _, _, _, _, _, _ => none
  | k + 1, x1, x5, x14, x15, x16, x40, x200000, x200001 => if x40 = true then (some false) else (keyeventref04_Same.l1 k x1 x5 x14 x15 x16 x200001 (x200001.length : Int) 0)
def keyeventref04_Same.l1 : Nat → List (S25) → Int → List (S25) → Int → Int → List (S27) → Int → Int → Option (Bool)
  | 0, _, _, _, _, _, _, _, _ => none
  | k + 1, x1, x5, x14, x15, x16, x42, x43, x44 => if x44 < x43 then (if 0 ≤ x44 then (if x44 < (x42.length : Int) then (if 0 ≤ x5 then (if x5 < (x1.length : Int) then (if x44 < (((rd_T25 x1 x5).f1).length : Int) then (if (!(((rd_T27 ((rd_T25 x1 x5).f1) x44).f0) == ((rd_T27 x42 x44).f0)) || (!((((rd_T27 ((rd_T25 x1 x5).f1) x44).f1).toList) == (((rd_T27 x42 x44).f1).toList)))) = true then (some false) else (keyeventref04_Same.l1 k x1 x5 x14 x15 x16 x42 x43 (wrap64 (x44 + 1)))) else (none)) else (none)) else (none)) else (none)) else (none)) else (keyeventref04_Same.l0 k x1 x14 x15 (wrap64 (x16 + 1)))
end
def keyeventref04_Same.f (k : Nat) (l0 : List (S25)) (l1 : List (S25)) : Option (Bool) := if (l0.length : Int) = (l1.length : Int) then (keyeventref04_Same.l0 k l1 l0 (l0.length : Int) 0) else (some false)
theorem keyeventref04_Same.mono_l : ∀ k, (∀ y0 y1 y2 y3, LeO (keyeventref04_Same.l0 k y0 y1 y2 y3) (keyeventref04_Same.l0 (k + 1) y0 y1 y2 y3)) ∧ (∀ y0 y1 y2 y3 y4 y5 y6 y7, LeO (keyeventref04_Same.j1 k y0 y1 y2 y3 y4 y5 y6 y7) (keyeventref04_Same.j1 (k + 1) y0 y1 y2 y3 y4 y5 y6 y7)) ∧ (∀ y0 y1 y2 y3 y4 y5 y6 y7, LeO (keyeventref04_Same.l1 k y0 y1 y2 y3 y4 y5 y6 y7) (keyeventref04_Same.l1 (k + 1) y0 y1 y2 y3 y4 y5 y6 y7))
  | 0 => ⟨fun _ _ _ _ r h => by simp [keyeventref04_Same.l0] at h, fun _ _ _ _ _ _ _ _ r h => by simp [keyeventref04_Same.j1] at h, fun _ _ _ _ _ _ _ _ r h => by simp [keyeventref04_Same.l1] at h⟩
  | k + 1 => by
    obtain ⟨ih0, ih1, ih2⟩ := keyeventref04_Same.mono_l k
    refine ⟨?_, ?_, ?_⟩
    · intro y0 y1 y2 y3
      unfold keyeventref04_Same.l0
      repeat' first
      | (with_reducible exact ih0 _ _ _ _)
      | (with_reducible exact ih1 _ _ _ _ _ _ _ _)
      | (with_reducible exact ih2 _ _ _ _ _ _ _ _)
      | (with_reducible exact LeO.refl _)
      | (with_reducible exact LeO.none _)
      | (with_reducible refine LeO.ite ?_ ?_)
      | (with_reducible refine LeO.bind ?_ (fun _ => ?_))
      | exact ih0 _ _ _ _
      | exact ih1 _ _ _ _ _ _ _ _
      | exact ih2 _ _ _ _ _ _ _ _
      | exact LeO.none _
      | refine LeO.ite ?_ ?_
      | refine LeO.bind ?_ (fun _ => ?_)
    · intro y0 y1 y2 y3 y4 y5 y6 y7
      unfold keyeventref04_Same.j1
      repeat' first
      | (with_reducible exact ih0 _ _ _ _)
      | (with_reducible exact ih1 _ _ _ _ _ _ _ _)
      | (with_reducible exact ih2 _ _ _ _ _ _ _ _)
      | (with_reducible exact LeO.refl _)
      | (with_reducible exact LeO.none _)
      | (with_reducible refine LeO.ite ?_ ?_)
      | (with_reducible refine LeO.bind ?_ (fun _ => ?_))
      | exact ih0 _ _ _ _
      | exact ih1 _ _ _ _ _ _ _ _
      | exact ih2 _ _ _ _ _ _ _ _
      | exact LeO.none _
      | refine LeO.ite ?_ ?_
      | refine LeO.bind ?_ (fun _ => ?_)
    · intro y0 y1 y2 y3 y4 y5 y6 y7
      unfold keyeventref04_Same.l1
      repeat' first
      | (with_reducible exact ih0 _ _ _ _)
      | (with_reducible exact ih1 _ _ _ _ _ _ _ _)
      | (with_reducible exact ih2 _ _ _ _ _ _ _ _)
      | (with_reducible exact LeO.refl _)
      | (with_reducible exact LeO.none _)
      | (with_reducible refine LeO.ite ?_ ?_)
      | (with_reducible refine LeO.bind ?_ (fun _ => ?_))
      | exact ih0 _ _ _ _
      | exact ih1 _ _ _ _ _ _ _ _
      | exact ih2 _ _ _ _ _ _ _ _
      | exact LeO.none _
      | refine LeO.ite ?_ ?_
      | refine LeO.bind ?_ (fun _ => ?_)
theorem keyeventref04_Same.mono : ∀ a0 a1 k, LeO (keyeventref04_Same.f k a0 a1) (keyeventref04_Same.f (k + 1) a0 a1) := by
  intro a0 a1 k
  obtain ⟨ih0, ih1, ih2⟩ := keyeventref04_Same.mono_l k
  unfold keyeventref04_Same.f
  repeat' first
      | (with_reducible exact ih0 _ _ _ _)
      | (with_reducible exact ih1 _ _ _ _ _ _ _ _)
      | (with_reducible exact ih2 _ _ _ _ _ _ _ _)
      | (with_reducible exact LeO.refl _)
      | (with_reducible exact LeO.none _)
      | (with_reducible refine LeO.ite ?_ ?_)
      | (with_reducible refine LeO.bind ?_ (fun _ => ?_))
      | exact ih0 _ _ _ _
      | exact ih1 _ _ _ _ _ _ _ _
      | exact ih2 _ _ _ _ _ _ _ _
      | exact LeO.none _
      | refine LeO.ite ?_ ?_
      | refine LeO.bind ?_ (fun _ => ?_)
set_option maxHeartbeats 8000000 in
set_option maxRecDepth 100000 in
theorem keyeventref04_Same.calls (k : Nat) (A0 : Option Addr) (c0 : Nat) (l0 : List (S25)) (A1 : Option Addr) (c1 : Nat) (l1 : List (S25)) (r : Bool) (w : World) (hr0 : Kd.C k25 w A0 l0.length l0) (hc0 : l0.length ≤ c0) (hr1 : Kd.C k25 w A1 l1.length l1) (hc1 : l1.length ≤ c1) (h : keyeventref04_Same.f k l0 l1 = some r) :
    Calls Try.prog 12 #[.slice A0 l0.length c0, .slice A1 l1.length c1] w fun e w' => e = .returned (.bool r) ∧ Below w.heap.size w w' := by
 have hu25 := Try.underlying25
 have hu27 := Try.underlying27
 have HR0 := Aside0.mk hr0
 have HC0 := Aside0.mk hc0
 clear hr0 hc0
 have HR1 := Aside0.mk hr1
 have HC1 := Aside0.mk hc1
 clear hr1 hc1
 have HB := Aside0.mk (Below.refl w.heap.size w)
 have H : (if (l0.length : Int) = (l1.length : Int) then (keyeventref04_Same.l0 k l1 l0 (l0.length : Int) 0) else (some false)) = some r := h
 clear h
 by_cases c3 : (l0.length : Int) = (l1.length : Int)
 ·rw [if_pos c3] at H
  have c3b0 : ((l0.length : Int) == (l1.length : Int)) = true := beq_iff_eq.mpr c3
  have c3b1 : ((l0.length : Int) != (l1.length : Int)) = false := bne_eq_false_iff_eq.mpr c3
  have c3b2 : (l0.length == l1.length) = true := by first | simpa using c3 | (simp at c3 ⊢; omega)
  clear c3
  have H' := Aside0.mk H
  clear H
  go_enter Try.func12, Try.ntmps12
  go_wp2
  repeat (go_quiet (fail); try go_wp2)
  go_loopg [16] k (fun kq v16 w' => ∃ (x16_1 : Int), v16 = .int .i64 x16_1 ∧ Aside0 (keyeventref04_Same.l0 kq l1 l0 (l0.length : Int) x16_1 = some r) ∧ Aside0 (kq ≤ k) ∧ Aside0 (Below w.heap.size w w'))
  case atStart => exact ⟨(0), (by first | rfl | (simp; done) | (simp [*]; done)), H', ⟨Nat.le_refl _⟩, ⟨by repeat (first | (with_reducible first | exact HB.out | apply below_alloc | apply pw_below_drewN | apply below_drew1) | exact HB.out)⟩⟩
  case round =>
   clear H'
   try clear c1
   try clear p2
   try clear c3
   try clear c3b0
   try clear c3b1
   try clear c3b2
   obtain ⟨x16_1, rfl, HA, HK1, HB⟩ := hrel
   cases gk with
   | zero => exact absurd HA.out (by simp [keyeventref04_Same.l0])
   | succ k1 =>
    have H := HA.out
    clear HA
    simp only [keyeventref04_Same.l0] at H
    by_cases c4 : x16_1 < (l0.length : Int)
    ·rw [if_pos c4] at H
     have c4b0 : decide (x16_1 < (l0.length : Int)) = true := decide_eq_true c4
     clear c4
     by_cases c5 : 0 ≤ x16_1
     ·rw [if_pos c5] at H
      have c5b0 : decide (0 ≤ x16_1) = true := decide_eq_true c5
      clear c5
      by_cases c6 : x16_1 < (l0.length : Int)
      ·rw [if_pos c6] at H
       have c6b0 : decide (x16_1 < (l0.length : Int)) = true := decide_eq_true c6
       clear c6
       have HC7 := Aside0.mk H
       clear H
       have p198 : 0 ≤ (x16_1 : Int) := of_decide_eq_true (by first | (with_reducible assumption) | assumption)
       have q198 : x16_1 < (l0.length : Int) := of_decide_eq_true (by first | (with_reducible assumption) | assumption)
       obtain ⟨ad198, A198_1, c198_1, e198, hx198_0, hx198_1, hl198_1, hi198_1⟩ := at_T25 HR0.out x16_1 p198 q198
       cases e198
       replace hx198_0 := (HB.out.cell (World.block_lt_of_cell? w _ hx198_0)).trans hx198_0
       replace hx198_1 := (HB.out.cell (World.block_lt_of_cell? w _ hx198_1)).trans hx198_1
       have HR198_1 := Aside0.mk hi198_1
       have HC198_1 := Aside0.mk hl198_1
       clear hi198_1 hl198_1
       replace p198 := eq_true p198
       replace q198 := eq_true q198
       go_upto_region 6 with (first | ((with_reducible refine gate_dst (N := 6) rfl ?_); (try (refine gate_guard (by rfl) ?_; dsimp only)); refine box_event ?hg (N := 6) ?hd (cs := #[.int .i64 0, .slice none 0 0]) (t := 25) ?hr ?_; (case hd => rfl); (case hg => rfl); (case hr => first | (go_simp; done) | (go_simp; rfl)); intro gb199 hg w8 hbox hb; have n0_ := Aside0.mk (below_step (by repeat (first | (with_reducible first | exact HB.out | apply below_alloc | apply pw_below_drewN | apply below_drew1) | exact HB.out)) hb); have n1_ := Aside0.mk (hbox); have n2_ := Aside0.mk ((by rw [hg]; exact (below_size (by repeat (first | (with_reducible first | exact HB.out | apply below_alloc | apply pw_below_drewN | apply below_drew1) | exact HB.out))) : w.heap.size ≤ gb199)); have n3_ := Aside0.mk ((by rw [hg]; exact (below_size (by repeat (first | (with_reducible first | exact HB.out | apply below_alloc | apply pw_below_drewN | apply below_drew1) | exact HB.out))) : w.heap.size ≤ gb199)); clear HB; have HB := n0_; have BK199 := n1_; have GW199 := n2_; have GE199 := n3_; clear n0_ n1_ n2_ n3_; clear hb hbox hg; have hcz9_0 : w8.cell? ⟨gb199, 0, none⟩ = some (.int .i64 0) := (blk_cell BK199.out 0).trans rfl; have hcz9_1 : w8.cell? ⟨gb199, 1, none⟩ = some (.slice none 0 0) := (blk_cell BK199.out 1).trans rfl; have hfz9_0 := blk_frozen BK199.out 0; have hfz9_1 := blk_frozen BK199.out 1))
       repeat (go_quiet (first | ((with_reducible refine gate_dst (N := 6) rfl ?_); (try (refine gate_guard (by rfl) ?_; dsimp only)); refine box_event ?hg (N := 6) ?hd (cs := #[.int .i64 0, .slice none 0 0]) (t := 25) ?hr ?_; (case hd => rfl); (case hg => rfl); (case hr => first | (go_simp; done) | (go_simp; rfl)); intro gb199 hg w8 hbox hb; have n0_ := Aside0.mk (below_step (by repeat (first | (with_reducible first | exact HB.out | apply below_alloc | apply pw_below_drewN | apply below_drew1) | exact HB.out)) hb); have n1_ := Aside0.mk (hbox); have n2_ := Aside0.mk ((by rw [hg]; exact (below_size (by repeat (first | (with_reducible first | exact HB.out | apply below_alloc | apply pw_below_drewN | apply below_drew1) | exact HB.out))) : w.heap.size ≤ gb199)); have n3_ := Aside0.mk ((by rw [hg]; exact (below_size (by repeat (first | (with_reducible first | exact HB.out | apply below_alloc | apply pw_below_drewN | apply below_drew1) | exact HB.out))) : w.heap.size ≤ gb199)); clear HB; have HB := n0_; have BK199 := n1_; have GW199 := n2_; have GE199 := n3_; clear n0_ n1_ n2_ n3_; clear hb hbox hg; have hcz9_0 : w8.cell? ⟨gb199, 0, none⟩ = some (.int .i64 0) := (blk_cell BK199.out 0).trans rfl; have hcz9_1 : w8.cell? ⟨gb199, 1, none⟩ = some (.slice none 0 0) := (blk_cell BK199.out 1).trans rfl; have hfz9_0 := blk_frozen BK199.out 0; have hfz9_1 := blk_frozen BK199.out 1)); go_upto_region 6 with (first | ((with_reducible refine gate_dst (N := 6) rfl ?_); (try (refine gate_guard (by rfl) ?_; dsimp only)); refine box_event ?hg (N := 6) ?hd (cs := #[.int .i64 0, .slice none 0 0]) (t := 25) ?hr ?_; (case hd => rfl); (case hg => rfl); (case hr => first | (go_simp; done) | (go_simp; rfl)); intro gb199 hg w8 hbox hb; have n0_ := Aside0.mk (below_step (by repeat (first | (with_reducible first | exact HB.out | apply below_alloc | apply pw_below_drewN | apply below_drew1) | exact HB.out)) hb); have n1_ := Aside0.mk (hbox); have n2_ := Aside0.mk ((by rw [hg]; exact (below_size (by repeat (first | (with_reducible first | exact HB.out | apply below_alloc | apply pw_below_drewN | apply below_drew1) | exact HB.out))) : w.heap.size ≤ gb199)); have n3_ := Aside0.mk ((by rw [hg]; exact (below_size (by repeat (first | (with_reducible first | exact HB.out | apply below_alloc | apply pw_below_drewN | apply below_drew1) | exact HB.out))) : w.heap.size ≤ gb199)); clear HB; have HB := n0_; have BK199 := n1_; have GW199 := n2_; have GE199 := n3_; clear n0_ n1_ n2_ n3_; clear hb hbox hg; have hcz9_0 : w8.cell? ⟨gb199, 0, none⟩ = some (.int .i64 0) := (blk_cell BK199.out 0).trans rfl; have hcz9_1 : w8.cell? ⟨gb199, 1, none⟩ = some (.slice none 0 0) := (blk_cell BK199.out 1).trans rfl; have hfz9_0 := blk_frozen BK199.out 0; have hfz9_1 := blk_frozen BK199.out 1)))
       (try simp only [Act.put, List.setIfInBounds_toArray, List.set_cons_zero, List.set_cons_succ])
       go_cut [40] (fun v40 wc => ∃ (kq : Nat) (x40_6 : Bool), v40 = .bool x40_6 ∧ Aside0 (keyeventref04_Same.j1 kq l1 x16_1 l0 (l0.length : Int) x16_1 x40_6 ((rd_T25 l0 x16_1).f0) ((rd_T25 l0 x16_1).f1) = some r) ∧ Aside0 (kq ≤ k1) ∧ Aside0 (wc.heap[gb199]? = some (.cells #[.int .i64 ((rd_T25 l0 x16_1).f0), (.slice A198_1 ((rd_T25 l0 x16_1).f1).length c198_1)] 25 (0, 0))) ∧ Aside0 (Below w.heap.size w wc))
       case first =>
        have H := HC7.out
        clear HC7
        by_cases c10 : x16_1 < (l1.length : Int)
        ·rw [if_pos c10] at H
         have c10b0 : decide (x16_1 < (l1.length : Int)) = true := decide_eq_true c10
         clear c10
         (first | rw [c10b0] | (simp only [i64_w, i32_w]; rw [c10b0]) | skip)
         by_cases c11 : ((rd_T25 l0 x16_1).f0) = ((rd_T25 l1 x16_1).f0)
         ·rw [if_pos c11] at H
          have c11b0 : (((rd_T25 l0 x16_1).f0) == ((rd_T25 l1 x16_1).f0)) = true := beq_iff_eq.mpr c11
          have c11b1 : (((rd_T25 l0 x16_1).f0) != ((rd_T25 l1 x16_1).f0)) = false := bne_eq_false_iff_eq.mpr c11
          clear c11
          have H' := Aside0.mk H
          clear H
          have hcz12_0 : w8.cell? ⟨gb199, 0, none⟩ = some (.int .i64 0) := (blk_cell BK199.out 0).trans rfl
          have hcz12_1 : w8.cell? ⟨gb199, 1, none⟩ = some (.slice none 0 0) := (blk_cell BK199.out 1).trans rfl
          have hfz12_0 := blk_frozen BK199.out 0
          have hfz12_1 := blk_frozen BK199.out 1
          have p200 : 0 ≤ (x16_1 : Int) := of_decide_eq_true (by first | (with_reducible assumption) | assumption)
          have q200 : x16_1 < (l1.length : Int) := of_decide_eq_true (by first | (with_reducible assumption) | assumption)
          obtain ⟨ad200, A200_1, c200_1, e200, hx200_0, hx200_1, hl200_1, hi200_1⟩ := at_T25 HR1.out x16_1 p200 q200
          cases e200
          have hn200_0 : ad200.block ≠ gb199 := Nat.ne_of_lt (Nat.lt_of_lt_of_le (by have := World.block_lt_of_cell? _ _ hx200_0; first | rwa [add_block] at this | exact this) GW199.out)
          have hn200_1 : ad200.block ≠ gb199 := Nat.ne_of_lt (Nat.lt_of_lt_of_le (by have := World.block_lt_of_cell? _ _ hx200_0; first | rwa [add_block] at this | exact this) GW199.out)
          replace hx200_0 := (HB.out.cell (World.block_lt_of_cell? w _ hx200_0)).trans hx200_0
          replace hx200_1 := (HB.out.cell (World.block_lt_of_cell? w _ hx200_1)).trans hx200_1
          have HR200_1 := Aside0.mk hi200_1
          have HC200_1 := Aside0.mk hl200_1
          clear hi200_1 hl200_1
          replace hx200_0 := (cell_far (p := ⟨gb199, 0, none⟩) (by first | (rw [add_block]; exact hn200_0) | (show (Addr.add _ _).block ≠ _; rw [add_block]; exact hn200_0) | exact hn200_0) (.int .i64 ((rd_T25 l0 x16_1).f0))).trans hx200_0
          replace hx200_1 := (cell_far (p := ⟨gb199, 0, none⟩) (by first | (rw [add_block]; exact hn200_0) | (show (Addr.add _ _).block ≠ _; rw [add_block]; exact hn200_0) | exact hn200_0) (.int .i64 ((rd_T25 l0 x16_1).f0))).trans hx200_1
          replace hx200_0 := (cell_far (p := ⟨gb199, 1, none⟩) (by first | (rw [add_block]; exact hn200_1) | (show (Addr.add _ _).block ≠ _; rw [add_block]; exact hn200_1) | exact hn200_1) (.slice A198_1 ((rd_T25 l0 x16_1).f1).length c198_1)).trans hx200_0
          replace hx200_1 := (cell_far (p := ⟨gb199, 1, none⟩) (by first | (rw [add_block]; exact hn200_1) | (show (Addr.add _ _).block ≠ _; rw [add_block]; exact hn200_1) | exact hn200_1) (.slice A198_1 ((rd_T25 l0 x16_1).f1).length c198_1)).trans hx200_1
          (try have hy200_0 := fun (n_ : Nat) => (show ((((w8.drewN n_).setCell ⟨gb199, 0, none⟩ (.int .i64 ((rd_T25 l0 x16_1).f0))).setCell ⟨gb199, 1, none⟩ (.slice A198_1 ((rd_T25 l0 x16_1).f1).length c198_1))).cell? _ = some _ from hx200_0))
          (try have hy200_1 := fun (n_ : Nat) => (show ((((w8.drewN n_).setCell ⟨gb199, 0, none⟩ (.int .i64 ((rd_T25 l0 x16_1).f0))).setCell ⟨gb199, 1, none⟩ (.slice A198_1 ((rd_T25 l0 x16_1).f1).length c198_1))).cell? _ = some _ from hx200_1))
          clear hn200_0
          clear hn200_1
          replace p200 := eq_true p200
          replace q200 := eq_true q200
          have p201 : 0 ≤ (x16_1 : Int) := of_decide_eq_true (by first | (with_reducible assumption) | assumption)
          have q201 : x16_1 < (l1.length : Int) := of_decide_eq_true (by first | (with_reducible assumption) | assumption)
          obtain ⟨ad201, A201_1, c201_1, e201, hx201_0, hx201_1, hl201_1, hi201_1⟩ := at_T25 HR1.out x16_1 p201 q201
          obtain rfl : ad200 = ad201 := (by injection e201)
          have hn201_0 : ad200.block ≠ gb199 := Nat.ne_of_lt (Nat.lt_of_lt_of_le (by have := World.block_lt_of_cell? _ _ hx201_0; first | rwa [add_block] at this | exact this) GW199.out)
          have hn201_1 : ad200.block ≠ gb199 := Nat.ne_of_lt (Nat.lt_of_lt_of_le (by have := World.block_lt_of_cell? _ _ hx201_0; first | rwa [add_block] at this | exact this) GW199.out)
          replace hx201_0 := (HB.out.cell (World.block_lt_of_cell? w _ hx201_0)).trans hx201_0
          replace hx201_1 := (HB.out.cell (World.block_lt_of_cell? w _ hx201_1)).trans hx201_1
          have HR201_1 := Aside0.mk hi201_1
          have HC201_1 := Aside0.mk hl201_1
          clear hi201_1 hl201_1
          replace hx201_0 := (cell_far (p := ⟨gb199, 0, none⟩) (by first | (rw [add_block]; exact hn201_0) | (show (Addr.add _ _).block ≠ _; rw [add_block]; exact hn201_0) | exact hn201_0) (.int .i64 ((rd_T25 l0 x16_1).f0))).trans hx201_0
          replace hx201_1 := (cell_far (p := ⟨gb199, 0, none⟩) (by first | (rw [add_block]; exact hn201_0) | (show (Addr.add _ _).block ≠ _; rw [add_block]; exact hn201_0) | exact hn201_0) (.int .i64 ((rd_T25 l0 x16_1).f0))).trans hx201_1
          replace hx201_0 := (cell_far (p := ⟨gb199, 1, none⟩) (by first | (rw [add_block]; exact hn201_1) | (show (Addr.add _ _).block ≠ _; rw [add_block]; exact hn201_1) | exact hn201_1) (.slice A198_1 ((rd_T25 l0 x16_1).f1).length c198_1)).trans hx201_0
          replace hx201_1 := (cell_far (p := ⟨gb199, 1, none⟩) (by first | (rw [add_block]; exact hn201_1) | (show (Addr.add _ _).block ≠ _; rw [add_block]; exact hn201_1) | exact hn201_1) (.slice A198_1 ((rd_T25 l0 x16_1).f1).length c198_1)).trans hx201_1
          (try have hy201_0 := fun (n_ : Nat) => (show ((((w8.drewN n_).setCell ⟨gb199, 0, none⟩ (.int .i64 ((rd_T25 l0 x16_1).f0))).setCell ⟨gb199, 1, none⟩ (.slice A198_1 ((rd_T25 l0 x16_1).f1).length c198_1))).cell? _ = some _ from hx201_0))
          (try have hy201_1 := fun (n_ : Nat) => (show ((((w8.drewN n_).setCell ⟨gb199, 0, none⟩ (.int .i64 ((rd_T25 l0 x16_1).f0))).setCell ⟨gb199, 1, none⟩ (.slice A198_1 ((rd_T25 l0 x16_1).f1).length c198_1))).cell? _ = some _ from hx201_1))
          clear hn201_0
          clear hn201_1
          replace p201 := eq_true p201
          replace q201 := eq_true q201
          go_wp2
          repeat (go_quiet (fail); try go_wp2)
          go_meet
          case rel => exact ⟨_, (((((rd_T25 l0 x16_1).f1).length : Int) != (((rd_T25 l1 x16_1).f1).length : Int))), (by first | rfl | (simp; done) | (simp [*]; done)), H', ⟨by have := HK1.out; first | omega | exact Nat.le_refl _⟩, ⟨by (with_reducible repeat (first | refine blk_drewN ?_ _ | refine blk_drew ?_ | refine blk_alloc ?_ _)); refine blk_put (cs := #[.int .i64 ((rd_T25 l0 x16_1).f0), .slice none 0 0]) ?_ 1 _ rfl; (with_reducible repeat (first | refine blk_drewN ?_ _ | refine blk_drew ?_ | refine blk_alloc ?_ _)); refine blk_put (cs := #[.int .i64 0, .slice none 0 0]) ?_ 0 _ rfl; (with_reducible repeat (first | refine blk_drewN ?_ _ | refine blk_drew ?_ | refine blk_alloc ?_ _)); exact BK199.out⟩, ⟨by repeat (first | (with_reducible first | exact HB.out | apply below_alloc | apply pw_below_drewN | apply below_drew1 | refine below_set ?_ GE199.out) | exact HB.out)⟩⟩
         ·rw [if_neg c11] at H
          have c11b0 : (((rd_T25 l0 x16_1).f0) == ((rd_T25 l1 x16_1).f0)) = false := beq_eq_false_iff_ne.mpr c11
          have c11b1 : (((rd_T25 l0 x16_1).f0) != ((rd_T25 l1 x16_1).f0)) = true := bne_iff_ne.mpr c11
          have H' := Aside0.mk H
          clear H
          have hcz13_0 : w8.cell? ⟨gb199, 0, none⟩ = some (.int .i64 0) := (blk_cell BK199.out 0).trans rfl
          have hcz13_1 : w8.cell? ⟨gb199, 1, none⟩ = some (.slice none 0 0) := (blk_cell BK199.out 1).trans rfl
          have hfz13_0 := blk_frozen BK199.out 0
          have hfz13_1 := blk_frozen BK199.out 1
          have p200 : 0 ≤ (x16_1 : Int) := of_decide_eq_true (by first | (with_reducible assumption) | assumption)
          have q200 : x16_1 < (l1.length : Int) := of_decide_eq_true (by first | (with_reducible assumption) | assumption)
          obtain ⟨ad200, A200_1, c200_1, e200, hx200_0, hx200_1, hl200_1, hi200_1⟩ := at_T25 HR1.out x16_1 p200 q200
          cases e200
          have hn200_0 : ad200.block ≠ gb199 := Nat.ne_of_lt (Nat.lt_of_lt_of_le (by have := World.block_lt_of_cell? _ _ hx200_0; first | rwa [add_block] at this | exact this) GW199.out)
          have hn200_1 : ad200.block ≠ gb199 := Nat.ne_of_lt (Nat.lt_of_lt_of_le (by have := World.block_lt_of_cell? _ _ hx200_0; first | rwa [add_block] at this | exact this) GW199.out)
          replace hx200_0 := (HB.out.cell (World.block_lt_of_cell? w _ hx200_0)).trans hx200_0
          replace hx200_1 := (HB.out.cell (World.block_lt_of_cell? w _ hx200_1)).trans hx200_1
          have HR200_1 := Aside0.mk hi200_1
          have HC200_1 := Aside0.mk hl200_1
          clear hi200_1 hl200_1
          replace hx200_0 := (cell_far (p := ⟨gb199, 0, none⟩) (by first | (rw [add_block]; exact hn200_0) | (show (Addr.add _ _).block ≠ _; rw [add_block]; exact hn200_0) | exact hn200_0) (.int .i64 ((rd_T25 l0 x16_1).f0))).trans hx200_0
          replace hx200_1 := (cell_far (p := ⟨gb199, 0, none⟩) (by first | (rw [add_block]; exact hn200_0) | (show (Addr.add _ _).block ≠ _; rw [add_block]; exact hn200_0) | exact hn200_0) (.int .i64 ((rd_T25 l0 x16_1).f0))).trans hx200_1
          replace hx200_0 := (cell_far (p := ⟨gb199, 1, none⟩) (by first | (rw [add_block]; exact hn200_1) | (show (Addr.add _ _).block ≠ _; rw [add_block]; exact hn200_1) | exact hn200_1) (.slice A198_1 ((rd_T25 l0 x16_1).f1).length c198_1)).trans hx200_0
          replace hx200_1 := (cell_far (p := ⟨gb199, 1, none⟩) (by first | (rw [add_block]; exact hn200_1) | (show (Addr.add _ _).block ≠ _; rw [add_block]; exact hn200_1) | exact hn200_1) (.slice A198_1 ((rd_T25 l0 x16_1).f1).length c198_1)).trans hx200_1
          (try have hy200_0 := fun (n_ : Nat) => (show ((((w8.drewN n_).setCell ⟨gb199, 0, none⟩ (.int .i64 ((rd_T25 l0 x16_1).f0))).setCell ⟨gb199, 1, none⟩ (.slice A198_1 ((rd_T25 l0 x16_1).f1).length c198_1))).cell? _ = some _ from hx200_0))
          (try have hy200_1 := fun (n_ : Nat) => (show ((((w8.drewN n_).setCell ⟨gb199, 0, none⟩ (.int .i64 ((rd_T25 l0 x16_1).f0))).setCell ⟨gb199, 1, none⟩ (.slice A198_1 ((rd_T25 l0 x16_1).f1).length c198_1))).cell? _ = some _ from hx200_1))
          clear hn200_0
          clear hn200_1
          replace p200 := eq_true p200
          replace q200 := eq_true q200
          go_wp2
          repeat (go_quiet (fail); try go_wp2)
          go_meet
          case rel => exact ⟨_, (true), (by first | rfl | (simp; done) | (simp [*]; done)), H', ⟨by have := HK1.out; first | omega | exact Nat.le_refl _⟩, ⟨by (with_reducible repeat (first | refine blk_drewN ?_ _ | refine blk_drew ?_ | refine blk_alloc ?_ _)); refine blk_put (cs := #[.int .i64 ((rd_T25 l0 x16_1).f0), .slice none 0 0]) ?_ 1 _ rfl; (with_reducible repeat (first | refine blk_drewN ?_ _ | refine blk_drew ?_ | refine blk_alloc ?_ _)); refine blk_put (cs := #[.int .i64 0, .slice none 0 0]) ?_ 0 _ rfl; (with_reducible repeat (first | refine blk_drewN ?_ _ | refine blk_drew ?_ | refine blk_alloc ?_ _)); exact BK199.out⟩, ⟨by repeat (first | (with_reducible first | exact HB.out | apply below_alloc | apply pw_below_drewN | apply below_drew1 | refine below_set ?_ GE199.out) | exact HB.out)⟩⟩
        ·rw [if_neg c10] at H
         exact absurd H (by simp)
       case rest =>
        clear HC7
        try clear c1
        try clear p1
        try clear q1
        try clear hx1
        try clear c2
        try clear p2
        try clear q2
        try clear hx2
        try clear c3
        try clear c3b0
        try clear c3b1
        try clear c3b2
        try clear c4
        try clear c4b0
        try clear c5
        try clear c5b0
        try clear c6
        try clear c6b0
        try clear c10
        try clear c10b0
        try clear c11
        try clear c11b0
        try clear c11b1
        try clear c12
        try clear hcz12_0
        try clear hcz12_1
        try clear hcz13_0
        try clear hcz13_1
        try clear hcz9_0
        try clear hcz9_1
        try clear hfz12_0
        try clear hfz12_1
        try clear hfz13_0
        try clear hfz13_1
        try clear hfz9_0
        try clear hfz9_1
        try clear hx198_0
        try clear hx198_1
        try clear hx200_0
        try clear hx200_1
        try clear hx201_0
        try clear hx201_1
        try clear p198
        try clear p2
        try clear p200
        try clear p201
        try clear q198
        try clear q200
        try clear q201
        obtain ⟨kq, x40_6, rfl, HA, HJ6, BK199, HB⟩ := hcut
        cases kq with
        | zero => exact absurd HA.out (by simp [keyeventref04_Same.j1])
        | succ kj6 =>
         have H := HA.out
         clear HA
         simp only [keyeventref04_Same.j1] at H
         by_cases c14 : x40_6 = true
         ·subst c14
          have H1 : (some false) = some r := by rw [if_pos rfl] at H; exact H
          clear H
          have H := H1
          clear H1
          obtain rfl := Option.some.inj H
          go_wp2
          repeat (go_quiet (fail); try go_wp2)
          go_ret
          exact ⟨by first | rfl | (simp [errW_none, errW_some] <;> rfl) | (simp [*, errW_none, errW_some] <;> rfl), by repeat (first | (with_reducible first | exact HB.out | apply below_alloc | apply pw_below_drewN | apply below_drew1 | refine below_set ?_ GE199.out) | exact HB.out)⟩
         ·replace c14 := Bool.eq_false_iff.mpr c14
          subst c14
          have H1 : (keyeventref04_Same.l1 kj6 l1 x16_1 l0 (l0.length : Int) x16_1 ((rd_T25 l0 x16_1).f1) (((rd_T25 l0 x16_1).f1).length : Int) 0) = some r := by rw [if_neg (show ¬ (false = true) by decide)] at H; exact H
          clear H
          have H := H1
          clear H1
          have H' := Aside0.mk H
          clear H
          have hcz15_0 : wc.cell? ⟨gb199, 0, none⟩ = some (.int .i64 ((rd_T25 l0 x16_1).f0)) := (blk_cell BK199.out 0).trans rfl
          have hcz15_1 : wc.cell? ⟨gb199, 1, none⟩ = some (.slice A198_1 ((rd_T25 l0 x16_1).f1).length c198_1) := (blk_cell BK199.out 1).trans rfl
          have hfz15_0 := blk_frozen BK199.out 0
          have hfz15_1 := blk_frozen BK199.out 1
          go_wp2
          repeat (go_quiet (fail); try go_wp2)
          go_loopg [44] kj6 (fun kq v44 w' => ∃ (x44_3 : Int), v44 = .int .i64 x44_3 ∧ Aside0 (keyeventref04_Same.l1 kq l1 x16_1 l0 (l0.length : Int) x16_1 ((rd_T25 l0 x16_1).f1) (((rd_T25 l0 x16_1).f1).length : Int) x44_3 = some r) ∧ Aside0 (kq ≤ kj6) ∧ Aside0 (w'.heap[gb199]? = some (.cells #[.int .i64 ((rd_T25 l0 x16_1).f0), (.slice A198_1 ((rd_T25 l0 x16_1).f1).length c198_1)] 25 (0, 0))) ∧ Aside0 (Below w.heap.size w w'))
          case atStart => exact ⟨(0), (by first | rfl | (simp; done) | (simp [*]; done)), H', ⟨Nat.le_refl _⟩, ⟨by (with_reducible repeat (first | refine blk_drewN ?_ _ | refine blk_drew ?_ | refine blk_alloc ?_ _)); exact BK199.out⟩, ⟨by repeat (first | (with_reducible first | exact HB.out | apply below_alloc | apply pw_below_drewN | apply below_drew1 | refine below_set ?_ GE199.out) | exact HB.out)⟩⟩
          case round =>
           clear H'
           try clear c1
           try clear p1
           try clear q1
           try clear hx1
           try clear c2
           try clear p2
           try clear q2
           try clear hx2
           try clear c3
           try clear c3b0
           try clear c3b1
           try clear c3b2
           try clear c4
           try clear c4b0
           try clear c5
           try clear c5b0
           try clear c6
           try clear c6b0
           try clear c10
           try clear c10b0
           try clear c11
           try clear c11b0
           try clear c11b1
           try clear c12
           try clear c14
           try clear hcz12_0
           try clear hcz12_1
           try clear hcz13_0
           try clear hcz13_1
           try clear hcz15_0
           try clear hcz15_1
           try clear hcz9_0
           try clear hcz9_1
           try clear hfz12_0
           try clear hfz12_1
           try clear hfz13_0
           try clear hfz13_1
           try clear hfz15_0
           try clear hfz15_1
           try clear hfz9_0
           try clear hfz9_1
           try clear hx198_0
           try clear hx198_1
           try clear hx200_0
           try clear hx200_1
           try clear hx201_0
           try clear hx201_1
           try clear p1
           try clear p198
           try clear p2
           try clear p200
           try clear p201
           try clear q1
           try clear q198
           try clear q2
           try clear q200
           try clear q201
           obtain ⟨x44_3, rfl, HA, HK3, BK199, HB⟩ := hrel
           cases gk with
           | zero => exact absurd HA.out (by simp [keyeventref04_Same.l1])
           | succ k3 =>
            have H := HA.out
            clear HA
            simp only [keyeventref04_Same.l1] at H
            by_cases c16 : x44_3 < (((rd_T25 l0 x16_1).f1).length : Int)
            ·rw [if_pos c16] at H
             have c16b0 : decide (x44_3 < (((rd_T25 l0 x16_1).f1).length : Int)) = true := decide_eq_true c16
             clear c16
             by_cases c17 : 0 ≤ x44_3
             ·rw [if_pos c17] at H
              have c17b0 : decide (0 ≤ x44_3) = true := decide_eq_true c17
              clear c17
              by_cases c18 : x44_3 < (((rd_T25 l0 x16_1).f1).length : Int)
              ·rw [if_pos c18] at H
               have c18b0 : decide (x44_3 < (((rd_T25 l0 x16_1).f1).length : Int)) = true := decide_eq_true c18
               clear c18
               by_cases c19 : 0 ≤ x16_1
               ·rw [if_pos c19] at H
                have c19b0 : decide (0 ≤ x16_1) = true := decide_eq_true c19
                clear c19
                by_cases c20 : x16_1 < (l1.length : Int)
                ·rw [if_pos c20] at H
                 have c20b0 : decide (x16_1 < (l1.length : Int)) = true := decide_eq_true c20
                 clear c20
                 by_cases c21 : x44_3 < (((rd_T25 l1 x16_1).f1).length : Int)
                 ·rw [if_pos c21] at H
                  have c21b0 : decide (x44_3 < (((rd_T25 l1 x16_1).f1).length : Int)) = true := decide_eq_true c21
                  clear c21
                  by_cases c22 : (!(((rd_T27 ((rd_T25 l1 x16_1).f1) x44_3).f0) == ((rd_T27 ((rd_T25 l0 x16_1).f1) x44_3).f0)) || (!((((rd_T27 ((rd_T25 l1 x16_1).f1) x44_3).f1).toList) == (((rd_T27 ((rd_T25 l0 x16_1).f1) x44_3).f1).toList)))) = true
                  ·rw [if_pos c22] at H
                   have c22b0 : (!(((rd_T27 ((rd_T25 l1 x16_1).f1) x44_3).f0) == ((rd_T27 ((rd_T25 l0 x16_1).f1) x44_3).f0)) || (!((((rd_T27 ((rd_T25 l1 x16_1).f1) x44_3).f1).toList) == (((rd_T27 ((rd_T25 l0 x16_1).f1) x44_3).f1).toList)))) = true := c22
                   clear c22
                   obtain rfl := Option.some.inj H
                   have p202 : 0 ≤ (x44_3 : Int) := of_decide_eq_true (by first | (with_reducible assumption) | assumption)
                   have q202 : x44_3 < (((rd_T25 l0 x16_1).f1).length : Int) := of_decide_eq_true (by first | (with_reducible assumption) | assumption)
                   obtain ⟨ad202, e202, hx202_0, hx202_1⟩ := at_T27 HR198_1.out x44_3 p202 q202
                   cases e202
                   replace hx202_0 := (HB.out.cell (World.block_lt_of_cell? w _ hx202_0)).trans hx202_0
                   replace hx202_1 := (HB.out.cell (World.block_lt_of_cell? w _ hx202_1)).trans hx202_1
                   replace p202 := eq_true p202
                   replace q202 := eq_true q202
                   go_wp2_with (first | ((with_reducible refine gate_dst (N := 8) rfl ?_); (try (refine gate_guard (by rfl) ?_; dsimp only)); refine box_event ?hg (N := 8) ?hd (cs := #[.int .i64 0, .string (⟨#[]⟩ : ByteArray)]) (t := 27) ?hr ?_; (case hd => rfl); (case hg => rfl); (case hr => first | (go_simp; done) | (go_simp; rfl)); intro gb203 hg w23 hbox hb; have n0_ := Aside0.mk (blk_below (g := gb199) (o := .cells #[.int .i64 ((rd_T25 l0 x16_1).f0), .slice (some ad202) ((rd_T25 l0 x16_1).f1).length c198_1] 25 (0, 0)) (by (with_reducible repeat (first | refine blk_drewN ?_ _ | refine blk_drew ?_ | refine blk_alloc ?_ _)); exact BK199.out) hb); have n1_ := Aside0.mk (below_step (by repeat (first | (with_reducible first | exact HB.out | apply below_alloc | apply pw_below_drewN | apply below_drew1 | refine below_set ?_ GE199.out) | exact HB.out)) hb); have n2_ := Aside0.mk (hbox); have n3_ := Aside0.mk ((by rw [hg]; exact (below_size (by repeat (first | (with_reducible first | exact HB.out | apply below_alloc | apply pw_below_drewN | apply below_drew1 | refine below_set ?_ GE199.out) | exact HB.out))) : w.heap.size ≤ gb203)); have n4_ := Aside0.mk ((by rw [hg]; exact (below_size (by repeat (first | (with_reducible first | exact HB.out | apply below_alloc | apply pw_below_drewN | apply below_drew1 | refine below_set ?_ GE199.out) | exact HB.out))) : w.heap.size ≤ gb203)); have n5_ := Aside0.mk ((by rw [hg]; exact Nat.ne_of_lt (blk_lt (g := gb199) (o := .cells #[.int .i64 ((rd_T25 l0 x16_1).f0), .slice (some ad202) ((rd_T25 l0 x16_1).f1).length c198_1] 25 (0, 0)) (by (with_reducible repeat (first | refine blk_drewN ?_ _ | refine blk_drew ?_ | refine blk_alloc ?_ _)); exact BK199.out)) : gb199 ≠ gb203)); have n6_ := Aside0.mk ((by rw [hg]; exact Nat.ne_of_gt (blk_lt (g := gb199) (o := .cells #[.int .i64 ((rd_T25 l0 x16_1).f0), .slice (some ad202) ((rd_T25 l0 x16_1).f1).length c198_1] 25 (0, 0)) (by (with_reducible repeat (first | refine blk_drewN ?_ _ | refine blk_drew ?_ | refine blk_alloc ?_ _)); exact BK199.out)) : gb203 ≠ gb199)); clear BK199; clear HB; have BK199 := n0_; have HB := n1_; have BK203 := n2_; have GW203 := n3_; have GE203 := n4_; have NB199_203 := n5_; have NB203_199 := n6_; clear n0_ n1_ n2_ n3_ n4_ n5_ n6_; clear hb hbox hg; have hnb24 := NB203_199.out; have hnc24 := NB199_203.out; have hcz25_0 : w23.cell? ⟨gb203, 0, none⟩ = some (.int .i64 0) := (blk_cell BK203.out 0).trans rfl; have hcz25_1 : w23.cell? ⟨gb203, 1, none⟩ = some (.string (⟨#[]⟩ : ByteArray)) := (blk_cell BK203.out 1).trans rfl; have hfz25_0 := blk_frozen BK203.out 0; have hfz25_1 := blk_frozen BK203.out 1; have p204 : 0 ≤ (x16_1 : Int) := of_decide_eq_true (by first | (with_reducible assumption) | assumption); have q204 : x16_1 < (l1.length : Int) := of_decide_eq_true (by first | (with_reducible assumption) | assumption); obtain ⟨ad204, A204_1, c204_1, e204, hx204_0, hx204_1, hl204_1, hi204_1⟩ := at_T25 HR1.out x16_1 p204 q204; cases e204; have hn204_0 : ad204.block ≠ gb203 := Nat.ne_of_lt (Nat.lt_of_lt_of_le (by have := World.block_lt_of_cell? _ _ hx204_0; first | rwa [add_block] at this | exact this) GW203.out); have hn204_1 : ad204.block ≠ gb203 := Nat.ne_of_lt (Nat.lt_of_lt_of_le (by have := World.block_lt_of_cell? _ _ hx204_0; first | rwa [add_block] at this | exact this) GW203.out); replace hx204_0 := (HB.out.cell (World.block_lt_of_cell? w _ hx204_0)).trans hx204_0; replace hx204_1 := (HB.out.cell (World.block_lt_of_cell? w _ hx204_1)).trans hx204_1; have HR204_1 := Aside0.mk hi204_1; have HC204_1 := Aside0.mk hl204_1; clear hi204_1 hl204_1; replace hx204_0 := (cell_far (p := ⟨gb203, 0, none⟩) (by first | (rw [add_block]; exact hn204_0) | (show (Addr.add _ _).block ≠ _; rw [add_block]; exact hn204_0) | exact hn204_0) (.int .i64 ((rd_T27 ((rd_T25 l0 x16_1).f1) x44_3).f0))).trans hx204_0; replace hx204_1 := (cell_far (p := ⟨gb203, 0, none⟩) (by first | (rw [add_block]; exact hn204_0) | (show (Addr.add _ _).block ≠ _; rw [add_block]; exact hn204_0) | exact hn204_0) (.int .i64 ((rd_T27 ((rd_T25 l0 x16_1).f1) x44_3).f0))).trans hx204_1; replace hx204_0 := (cell_far (p := ⟨gb203, 1, none⟩) (by first | (rw [add_block]; exact hn204_1) | (show (Addr.add _ _).block ≠ _; rw [add_block]; exact hn204_1) | exact hn204_1) (.string ((rd_T27 ((rd_T25 l0 x16_1).f1) x44_3).f1))).trans hx204_0; replace hx204_1 := (cell_far (p := ⟨gb203, 1, none⟩) (by first | (rw [add_block]; exact hn204_1) | (show (Addr.add _ _).block ≠ _; rw [add_block]; exact hn204_1) | exact hn204_1) (.string ((rd_T27 ((rd_T25 l0 x16_1).f1) x44_3).f1))).trans hx204_1; (try have hy204_0 := fun (n_ : Nat) => (show ((((w23.drewN n_).setCell ⟨gb203, 0, none⟩ (.int .i64 ((rd_T27 ((rd_T25 l0 x16_1).f1) x44_3).f0))).setCell ⟨gb203, 1, none⟩ (.string ((rd_T27 ((rd_T25 l0 x16_1).f1) x44_3).f1)))).cell? _ = some _ from hx204_0)); (try have hy204_1 := fun (n_ : Nat) => (show ((((w23.drewN n_).setCell ⟨gb203, 0, none⟩ (.int .i64 ((rd_T27 ((rd_T25 l0 x16_1).f1) x44_3).f0))).setCell ⟨gb203, 1, none⟩ (.string ((rd_T27 ((rd_T25 l0 x16_1).f1) x44_3).f1)))).cell? _ = some _ from hx204_1)); clear hn204_0; clear hn204_1; replace p204 := eq_true p204; replace q204 := eq_true q204; have p205 : 0 ≤ (x44_3 : Int) := of_decide_eq_true (by first | (with_reducible assumption) | assumption); have q205 : x44_3 < (((rd_T25 l1 x16_1).f1).length : Int) := of_decide_eq_true (by first | (with_reducible assumption) | assumption); obtain ⟨ad205, e205, hx205_0, hx205_1⟩ := at_T27 HR204_1.out x44_3 p205 q205; cases e205; have hn205_0 : ad205.block ≠ gb203 := Nat.ne_of_lt (Nat.lt_of_lt_of_le (by have := World.block_lt_of_cell? _ _ hx205_0; first | rwa [add_block] at this | exact this) GW203.out); have hn205_1 : ad205.block ≠ gb203 := Nat.ne_of_lt (Nat.lt_of_lt_of_le (by have := World.block_lt_of_cell? _ _ hx205_0; first | rwa [add_block] at this | exact this) GW203.out); replace hx205_0 := (HB.out.cell (World.block_lt_of_cell? w _ hx205_0)).trans hx205_0; replace hx205_1 := (HB.out.cell (World.block_lt_of_cell? w _ hx205_1)).trans hx205_1; replace hx205_0 := (cell_far (p := ⟨gb203, 0, none⟩) (by first | (rw [add_block]; exact hn205_0) | (show (Addr.add _ _).block ≠ _; rw [add_block]; exact hn205_0) | exact hn205_0) (.int .i64 ((rd_T27 ((rd_T25 l0 x16_1).f1) x44_3).f0))).trans hx205_0; replace hx205_1 := (cell_far (p := ⟨gb203, 0, none⟩) (by first | (rw [add_block]; exact hn205_0) | (show (Addr.add _ _).block ≠ _; rw [add_block]; exact hn205_0) | exact hn205_0) (.int .i64 ((rd_T27 ((rd_T25 l0 x16_1).f1) x44_3).f0))).trans hx205_1; replace hx205_0 := (cell_far (p := ⟨gb203, 1, none⟩) (by first | (rw [add_block]; exact hn205_1) | (show (Addr.add _ _).block ≠ _; rw [add_block]; exact hn205_1) | exact hn205_1) (.string ((rd_T27 ((rd_T25 l0 x16_1).f1) x44_3).f1))).trans hx205_0; replace hx205_1 := (cell_far (p := ⟨gb203, 1, none⟩) (by first | (rw [add_block]; exact hn205_1) | (show (Addr.add _ _).block ≠ _; rw [add_block]; exact hn205_1) | exact hn205_1) (.string ((rd_T27 ((rd_T25 l0 x16_1).f1) x44_3).f1))).trans hx205_1; (try have hy205_0 := fun (n_ : Nat) => (show ((((w23.drewN n_).setCell ⟨gb203, 0, none⟩ (.int .i64 ((rd_T27 ((rd_T25 l0 x16_1).f1) x44_3).f0))).setCell ⟨gb203, 1, none⟩ (.string ((rd_T27 ((rd_T25 l0 x16_1).f1) x44_3).f1)))).cell? _ = some _ from hx205_0)); (try have hy205_1 := fun (n_ : Nat) => (show ((((w23.drewN n_).setCell ⟨gb203, 0, none⟩ (.int .i64 ((rd_T27 ((rd_T25 l0 x16_1).f1) x44_3).f0))).setCell ⟨gb203, 1, none⟩ (.string ((rd_T27 ((rd_T25 l0 x16_1).f1) x44_3).f1)))).cell? _ = some _ from hx205_1)); clear hn205_0; clear hn205_1; replace p205 := eq_true p205; replace q205 := eq_true q205))
                   repeat (go_quiet (first | ((with_reducible refine gate_dst (N := 8) rfl ?_); (try (refine gate_guard (by rfl) ?_; dsimp only)); refine box_event ?hg (N := 8) ?hd (cs := #[.int .i64 0, .string (⟨#[]⟩ : ByteArray)]) (t := 27) ?hr ?_; (case hd => rfl); (case hg => rfl); (case hr => first | (go_simp; done) | (go_simp; rfl)); intro gb203 hg w23 hbox hb; have n0_ := Aside0.mk (blk_below (g := gb199) (o := .cells #[.int .i64 ((rd_T25 l0 x16_1).f0), .slice (some ad202) ((rd_T25 l0 x16_1).f1).length c198_1] 25 (0, 0)) (by (with_reducible repeat (first | refine blk_drewN ?_ _ | refine blk_drew ?_ | refine blk_alloc ?_ _)); exact BK199.out) hb); have n1_ := Aside0.mk (below_step (by repeat (first | (with_reducible first | exact HB.out | apply below_alloc | apply pw_below_drewN | apply below_drew1 | refine below_set ?_ GE199.out) | exact HB.out)) hb); have n2_ := Aside0.mk (hbox); have n3_ := Aside0.mk ((by rw [hg]; exact (below_size (by repeat (first | (with_reducible first | exact HB.out | apply below_alloc | apply pw_below_drewN | apply below_drew1 | refine below_set ?_ GE199.out) | exact HB.out))) : w.heap.size ≤ gb203)); have n4_ := Aside0.mk ((by rw [hg]; exact (below_size (by repeat (first | (with_reducible first | exact HB.out | apply below_alloc | apply pw_below_drewN | apply below_drew1 | refine below_set ?_ GE199.out) | exact HB.out))) : w.heap.size ≤ gb203)); have n5_ := Aside0.mk ((by rw [hg]; exact Nat.ne_of_lt (blk_lt (g := gb199) (o := .cells #[.int .i64 ((rd_T25 l0 x16_1).f0), .slice (some ad202) ((rd_T25 l0 x16_1).f1).length c198_1] 25 (0, 0)) (by (with_reducible repeat (first | refine blk_drewN ?_ _ | refine blk_drew ?_ | refine blk_alloc ?_ _)); exact BK199.out)) : gb199 ≠ gb203)); have n6_ := Aside0.mk ((by rw [hg]; exact Nat.ne_of_gt (blk_lt (g := gb199) (o := .cells #[.int .i64 ((rd_T25 l0 x16_1).f0), .slice (some ad202) ((rd_T25 l0 x16_1).f1).length c198_1] 25 (0, 0)) (by (with_reducible repeat (first | refine blk_drewN ?_ _ | refine blk_drew ?_ | refine blk_alloc ?_ _)); exact BK199.out)) : gb203 ≠ gb199)); clear BK199; clear HB; have BK199 := n0_; have HB := n1_; have BK203 := n2_; have GW203 := n3_; have GE203 := n4_; have NB199_203 := n5_; have NB203_199 := n6_; clear n0_ n1_ n2_ n3_ n4_ n5_ n6_; clear hb hbox hg; have hnb24 := NB203_199.out; have hnc24 := NB199_203.out; have hcz25_0 : w23.cell? ⟨gb203, 0, none⟩ = some (.int .i64 0) := (blk_cell BK203.out 0).trans rfl; have hcz25_1 : w23.cell? ⟨gb203, 1, none⟩ = some (.string (⟨#[]⟩ : ByteArray)) := (blk_cell BK203.out 1).trans rfl; have hfz25_0 := blk_frozen BK203.out 0; have hfz25_1 := blk_frozen BK203.out 1; have p204 : 0 ≤ (x16_1 : Int) := of_decide_eq_true (by first | (with_reducible assumption) | assumption); have q204 : x16_1 < (l1.length : Int) := of_decide_eq_true (by first | (with_reducible assumption) | assumption); obtain ⟨ad204, A204_1, c204_1, e204, hx204_0, hx204_1, hl204_1, hi204_1⟩ := at_T25 HR1.out x16_1 p204 q204; cases e204; have hn204_0 : ad204.block ≠ gb203 := Nat.ne_of_lt (Nat.lt_of_lt_of_le (by have := World.block_lt_of_cell? _ _ hx204_0; first | rwa [add_block] at this | exact this) GW203.out); have hn204_1 : ad204.block ≠ gb203 := Nat.ne_of_lt (Nat.lt_of_lt_of_le (by have := World.block_lt_of_cell? _ _ hx204_0; first | rwa [add_block] at this | exact this) GW203.out); replace hx204_0 := (HB.out.cell (World.block_lt_of_cell? w _ hx204_0)).trans hx204_0; replace hx204_1 := (HB.out.cell (World.block_lt_of_cell? w _ hx204_1)).trans hx204_1; have HR204_1 := Aside0.mk hi204_1; have HC204_1 := Aside0.mk hl204_1; clear hi204_1 hl204_1; replace hx204_0 := (cell_far (p := ⟨gb203, 0, none⟩) (by first | (rw [add_block]; exact hn204_0) | (show (Addr.add _ _).block ≠ _; rw [add_block]; exact hn204_0) | exact hn204_0) (.int .i64 ((rd_T27 ((rd_T25 l0 x16_1).f1) x44_3).f0))).trans hx204_0; replace hx204_1 := (cell_far (p := ⟨gb203, 0, none⟩) (by first | (rw [add_block]; exact hn204_0) | (show (Addr.add _ _).block ≠ _; rw [add_block]; exact hn204_0) | exact hn204_0) (.int .i64 ((rd_T27 ((rd_T25 l0 x16_1).f1) x44_3).f0))).trans hx204_1; replace hx204_0 := (cell_far (p := ⟨gb203, 1, none⟩) (by first | (rw [add_block]; exact hn204_1) | (show (Addr.add _ _).block ≠ _; rw [add_block]; exact hn204_1) | exact hn204_1) (.string ((rd_T27 ((rd_T25 l0 x16_1).f1) x44_3).f1))).trans hx204_0; replace hx204_1 := (cell_far (p := ⟨gb203, 1, none⟩) (by first | (rw [add_block]; exact hn204_1) | (show (Addr.add _ _).block ≠ _; rw [add_block]; exact hn204_1) | exact hn204_1) (.string ((rd_T27 ((rd_T25 l0 x16_1).f1) x44_3).f1))).trans hx204_1; (try have hy204_0 := fun (n_ : Nat) => (show ((((w23.drewN n_).setCell ⟨gb203, 0, none⟩ (.int .i64 ((rd_T27 ((rd_T25 l0 x16_1).f1) x44_3).f0))).setCell ⟨gb203, 1, none⟩ (.string ((rd_T27 ((rd_T25 l0 x16_1).f1) x44_3).f1)))).cell? _ = some _ from hx204_0)); (try have hy204_1 := fun (n_ : Nat) => (show ((((w23.drewN n_).setCell ⟨gb203, 0, none⟩ (.int .i64 ((rd_T27 ((rd_T25 l0 x16_1).f1) x44_3).f0))).setCell ⟨gb203, 1, none⟩ (.string ((rd_T27 ((rd_T25 l0 x16_1).f1) x44_3).f1)))).cell? _ = some _ from hx204_1)); clear hn204_0; clear hn204_1; replace p204 := eq_true p204; replace q204 := eq_true q204; have p205 : 0 ≤ (x44_3 : Int) := of_decide_eq_true (by first | (with_reducible assumption) | assumption); have q205 : x44_3 < (((rd_T25 l1 x16_1).f1).length : Int) := of_decide_eq_true (by first | (with_reducible assumption) | assumption); obtain ⟨ad205, e205, hx205_0, hx205_1⟩ := at_T27 HR204_1.out x44_3 p205 q205; cases e205; have hn205_0 : ad205.block ≠ gb203 := Nat.ne_of_lt (Nat.lt_of_lt_of_le (by have := World.block_lt_of_cell? _ _ hx205_0; first | rwa [add_block] at this | exact this) GW203.out); have hn205_1 : ad205.block ≠ gb203 := Nat.ne_of_lt (Nat.lt_of_lt_of_le (by have := World.block_lt_of_cell? _ _ hx205_0; first | rwa [add_block] at this | exact this) GW203.out); replace hx205_0 := (HB.out.cell (World.block_lt_of_cell? w _ hx205_0)).trans hx205_0; replace hx205_1 := (HB.out.cell (World.block_lt_of_cell? w _ hx205_1)).trans hx205_1; replace hx205_0 := (cell_far (p := ⟨gb203, 0, none⟩) (by first | (rw [add_block]; exact hn205_0) | (show (Addr.add _ _).block ≠ _; rw [add_block]; exact hn205_0) | exact hn205_0) (.int .i64 ((rd_T27 ((rd_T25 l0 x16_1).f1) x44_3).f0))).trans hx205_0; replace hx205_1 := (cell_far (p := ⟨gb203, 0, none⟩) (by first | (rw [add_block]; exact hn205_0) | (show (Addr.add _ _).block ≠ _; rw [add_block]; exact hn205_0) | exact hn205_0) (.int .i64 ((rd_T27 ((rd_T25 l0 x16_1).f1) x44_3).f0))).trans hx205_1; replace hx205_0 := (cell_far (p := ⟨gb203, 1, none⟩) (by first | (rw [add_block]; exact hn205_1) | (show (Addr.add _ _).block ≠ _; rw [add_block]; exact hn205_1) | exact hn205_1) (.string ((rd_T27 ((rd_T25 l0 x16_1).f1) x44_3).f1))).trans hx205_0; replace hx205_1 := (cell_far (p := ⟨gb203, 1, none⟩) (by first | (rw [add_block]; exact hn205_1) | (show (Addr.add _ _).block ≠ _; rw [add_block]; exact hn205_1) | exact hn205_1) (.string ((rd_T27 ((rd_T25 l0 x16_1).f1) x44_3).f1))).trans hx205_1; (try have hy205_0 := fun (n_ : Nat) => (show ((((w23.drewN n_).setCell ⟨gb203, 0, none⟩ (.int .i64 ((rd_T27 ((rd_T25 l0 x16_1).f1) x44_3).f0))).setCell ⟨gb203, 1, none⟩ (.string ((rd_T27 ((rd_T25 l0 x16_1).f1) x44_3).f1)))).cell? _ = some _ from hx205_0)); (try have hy205_1 := fun (n_ : Nat) => (show ((((w23.drewN n_).setCell ⟨gb203, 0, none⟩ (.int .i64 ((rd_T27 ((rd_T25 l0 x16_1).f1) x44_3).f0))).setCell ⟨gb203, 1, none⟩ (.string ((rd_T27 ((rd_T25 l0 x16_1).f1) x44_3).f1)))).cell? _ = some _ from hx205_1)); clear hn205_0; clear hn205_1; replace p205 := eq_true p205; replace q205 := eq_true q205)); try go_wp2_with (first | ((with_reducible refine gate_dst (N := 8) rfl ?_); (try (refine gate_guard (by rfl) ?_; dsimp only)); refine box_event ?hg (N := 8) ?hd (cs := #[.int .i64 0, .string (⟨#[]⟩ : ByteArray)]) (t := 27) ?hr ?_; (case hd => rfl); (case hg => rfl); (case hr => first | (go_simp; done) | (go_simp; rfl)); intro gb203 hg w23 hbox hb; have n0_ := Aside0.mk (blk_below (g := gb199) (o := .cells #[.int .i64 ((rd_T25 l0 x16_1).f0), .slice (some ad202) ((rd_T25 l0 x16_1).f1).length c198_1] 25 (0, 0)) (by (with_reducible repeat (first | refine blk_drewN ?_ _ | refine blk_drew ?_ | refine blk_alloc ?_ _)); exact BK199.out) hb); have n1_ := Aside0.mk (below_step (by repeat (first | (with_reducible first | exact HB.out | apply below_alloc | apply pw_below_drewN | apply below_drew1 | refine below_set ?_ GE199.out) | exact HB.out)) hb); have n2_ := Aside0.mk (hbox); have n3_ := Aside0.mk ((by rw [hg]; exact (below_size (by repeat (first | (with_reducible first | exact HB.out | apply below_alloc | apply pw_below_drewN | apply below_drew1 | refine below_set ?_ GE199.out) | exact HB.out))) : w.heap.size ≤ gb203)); have n4_ := Aside0.mk ((by rw [hg]; exact (below_size (by repeat (first | (with_reducible first | exact HB.out | apply below_alloc | apply pw_below_drewN | apply below_drew1 | refine below_set ?_ GE199.out) | exact HB.out))) : w.heap.size ≤ gb203)); have n5_ := Aside0.mk ((by rw [hg]; exact Nat.ne_of_lt (blk_lt (g := gb199) (o := .cells #[.int .i64 ((rd_T25 l0 x16_1).f0), .slice (some ad202) ((rd_T25 l0 x16_1).f1).length c198_1] 25 (0, 0)) (by (with_reducible repeat (first | refine blk_drewN ?_ _ | refine blk_drew ?_ | refine blk_alloc ?_ _)); exact BK199.out)) : gb199 ≠ gb203)); have n6_ := Aside0.mk ((by rw [hg]; exact Nat.ne_of_gt (blk_lt (g := gb199) (o := .cells #[.int .i64 ((rd_T25 l0 x16_1).f0), .slice (some ad202) ((rd_T25 l0 x16_1).f1).length c198_1] 25 (0, 0)) (by (with_reducible repeat (first | refine blk_drewN ?_ _ | refine blk_drew ?_ | refine blk_alloc ?_ _)); exact BK199.out)) : gb203 ≠ gb199)); clear BK199; clear HB; have BK199 := n0_; have HB := n1_; have BK203 := n2_; have GW203 := n3_; have GE203 := n4_; have NB199_203 := n5_; have NB203_199 := n6_; clear n0_ n1_ n2_ n3_ n4_ n5_ n6_; clear hb hbox hg; have hnb24 := NB203_199.out; have hnc24 := NB199_203.out; have hcz25_0 : w23.cell? ⟨gb203, 0, none⟩ = some (.int .i64 0) := (blk_cell BK203.out 0).trans rfl; have hcz25_1 : w23.cell? ⟨gb203, 1, none⟩ = some (.string (⟨#[]⟩ : ByteArray)) := (blk_cell BK203.out 1).trans rfl; have hfz25_0 := blk_frozen BK203.out 0; have hfz25_1 := blk_frozen BK203.out 1; have p204 : 0 ≤ (x16_1 : Int) := of_decide_eq_true (by first | (with_reducible assumption) | assumption); have q204 : x16_1 < (l1.length : Int) := of_decide_eq_true (by first | (with_reducible assumption) | assumption); obtain ⟨ad204, A204_1, c204_1, e204, hx204_0, hx204_1, hl204_1, hi204_1⟩ := at_T25 HR1.out x16_1 p204 q204; cases e204; have hn204_0 : ad204.block ≠ gb203 := Nat.ne_of_lt (Nat.lt_of_lt_of_le (by have := World.block_lt_of_cell? _ _ hx204_0; first | rwa [add_block] at this | exact this) GW203.out); have hn204_1 : ad204.block ≠ gb203 := Nat.ne_of_lt (Nat.lt_of_lt_of_le (by have := World.block_lt_of_cell? _ _ hx204_0; first | rwa [add_block] at this | exact this) GW203.out); replace hx204_0 := (HB.out.cell (World.block_lt_of_cell? w _ hx204_0)).trans hx204_0; replace hx204_1 := (HB.out.cell (World.block_lt_of_cell? w _ hx204_1)).trans hx204_1; have HR204_1 := Aside0.mk hi204_1; have HC204_1 := Aside0.mk hl204_1; clear hi204_1 hl204_1; replace hx204_0 := (cell_far (p := ⟨gb203, 0, none⟩) (by first | (rw [add_block]; exact hn204_0) | (show (Addr.add _ _).block ≠ _; rw [add_block]; exact hn204_0) | exact hn204_0) (.int .i64 ((rd_T27 ((rd_T25 l0 x16_1).f1) x44_3).f0))).trans hx204_0; replace hx204_1 := (cell_far (p := ⟨gb203, 0, none⟩) (by first | (rw [add_block]; exact hn204_0) | (show (Addr.add _ _).block ≠ _; rw [add_block]; exact hn204_0) | exact hn204_0) (.int .i64 ((rd_T27 ((rd_T25 l0 x16_1).f1) x44_3).f0))).trans hx204_1; replace hx204_0 := (cell_far (p := ⟨gb203, 1, none⟩) (by first | (rw [add_block]; exact hn204_1) | (show (Addr.add _ _).block ≠ _; rw [add_block]; exact hn204_1) | exact hn204_1) (.string ((rd_T27 ((rd_T25 l0 x16_1).f1) x44_3).f1))).trans hx204_0; replace hx204_1 := (cell_far (p := ⟨gb203, 1, none⟩) (by first | (rw [add_block]; exact hn204_1) | (show (Addr.add _ _).block ≠ _; rw [add_block]; exact hn204_1) | exact hn204_1) (.string ((rd_T27 ((rd_T25 l0 x16_1).f1) x44_3).f1))).trans hx204_1; (try have hy204_0 := fun (n_ : Nat) => (show ((((w23.drewN n_).setCell ⟨gb203, 0, none⟩ (.int .i64 ((rd_T27 ((rd_T25 l0 x16_1).f1) x44_3).f0))).setCell ⟨gb203, 1, none⟩ (.string ((rd_T27 ((rd_T25 l0 x16_1).f1) x44_3).f1)))).cell? _ = some _ from hx204_0)); (try have hy204_1 := fun (n_ : Nat) => (show ((((w23.drewN n_).setCell ⟨gb203, 0, none⟩ (.int .i64 ((rd_T27 ((rd_T25 l0 x16_1).f1) x44_3).f0))).setCell ⟨gb203, 1, none⟩ (.string ((rd_T27 ((rd_T25 l0 x16_1).f1) x44_3).f1)))).cell? _ = some _ from hx204_1)); clear hn204_0; clear hn204_1; replace p204 := eq_true p204; replace q204 := eq_true q204; have p205 : 0 ≤ (x44_3 : Int) := of_decide_eq_true (by first | (with_reducible assumption) | assumption); have q205 : x44_3 < (((rd_T25 l1 x16_1).f1).length : Int) := of_decide_eq_true (by first | (with_reducible assumption) | assumption); obtain ⟨ad205, e205, hx205_0, hx205_1⟩ := at_T27 HR204_1.out x44_3 p205 q205; cases e205; have hn205_0 : ad205.block ≠ gb203 := Nat.ne_of_lt (Nat.lt_of_lt_of_le (by have := World.block_lt_of_cell? _ _ hx205_0; first | rwa [add_block] at this | exact this) GW203.out); have hn205_1 : ad205.block ≠ gb203 := Nat.ne_of_lt (Nat.lt_of_lt_of_le (by have := World.block_lt_of_cell? _ _ hx205_0; first | rwa [add_block] at this | exact this) GW203.out); replace hx205_0 := (HB.out.cell (World.block_lt_of_cell? w _ hx205_0)).trans hx205_0; replace hx205_1 := (HB.out.cell (World.block_lt_of_cell? w _ hx205_1)).trans hx205_1; replace hx205_0 := (cell_far (p := ⟨gb203, 0, none⟩) (by first | (rw [add_block]; exact hn205_0) | (show (Addr.add _ _).block ≠ _; rw [add_block]; exact hn205_0) | exact hn205_0) (.int .i64 ((rd_T27 ((rd_T25 l0 x16_1).f1) x44_3).f0))).trans hx205_0; replace hx205_1 := (cell_far (p := ⟨gb203, 0, none⟩) (by first | (rw [add_block]; exact hn205_0) | (show (Addr.add _ _).block ≠ _; rw [add_block]; exact hn205_0) | exact hn205_0) (.int .i64 ((rd_T27 ((rd_T25 l0 x16_1).f1) x44_3).f0))).trans hx205_1; replace hx205_0 := (cell_far (p := ⟨gb203, 1, none⟩) (by first | (rw [add_block]; exact hn205_1) | (show (Addr.add _ _).block ≠ _; rw [add_block]; exact hn205_1) | exact hn205_1) (.string ((rd_T27 ((rd_T25 l0 x16_1).f1) x44_3).f1))).trans hx205_0; replace hx205_1 := (cell_far (p := ⟨gb203, 1, none⟩) (by first | (rw [add_block]; exact hn205_1) | (show (Addr.add _ _).block ≠ _; rw [add_block]; exact hn205_1) | exact hn205_1) (.string ((rd_T27 ((rd_T25 l0 x16_1).f1) x44_3).f1))).trans hx205_1; (try have hy205_0 := fun (n_ : Nat) => (show ((((w23.drewN n_).setCell ⟨gb203, 0, none⟩ (.int .i64 ((rd_T27 ((rd_T25 l0 x16_1).f1) x44_3).f0))).setCell ⟨gb203, 1, none⟩ (.string ((rd_T27 ((rd_T25 l0 x16_1).f1) x44_3).f1)))).cell? _ = some _ from hx205_0)); (try have hy205_1 := fun (n_ : Nat) => (show ((((w23.drewN n_).setCell ⟨gb203, 0, none⟩ (.int .i64 ((rd_T27 ((rd_T25 l0 x16_1).f1) x44_3).f0))).setCell ⟨gb203, 1, none⟩ (.string ((rd_T27 ((rd_T25 l0 x16_1).f1) x44_3).f1)))).cell? _ = some _ from hx205_1)); clear hn205_0; clear hn205_1; replace p205 := eq_true p205; replace q205 := eq_true q205)))
                   go_ret
                   exact ⟨by first | rfl | (simp [errW_none, errW_some] <;> rfl) | (simp [*, errW_none, errW_some] <;> rfl), by repeat (first | (with_reducible first | exact HB.out | apply below_alloc | apply pw_below_drewN | apply below_drew1 | refine below_set ?_ GE199.out | refine below_set ?_ GE203.out) | exact HB.out)⟩
                  ·rw [if_neg c22] at H
                   have c22b0 : (!(((rd_T27 ((rd_T25 l1 x16_1).f1) x44_3).f0) == ((rd_T27 ((rd_T25 l0 x16_1).f1) x44_3).f0)) || (!((((rd_T27 ((rd_T25 l1 x16_1).f1) x44_3).f1).toList) == (((rd_T27 ((rd_T25 l0 x16_1).f1) x44_3).f1).toList)))) = false := by simpa using c22
                   clear c22
                   have H' := Aside0.mk H
                   clear H
                   have p202 : 0 ≤ (x44_3 : Int) := of_decide_eq_true (by first | (with_reducible assumption) | assumption)
                   have q202 : x44_3 < (((rd_T25 l0 x16_1).f1).length : Int) := of_decide_eq_true (by first | (with_reducible assumption) | assumption)
                   obtain ⟨ad202, e202, hx202_0, hx202_1⟩ := at_T27 HR198_1.out x44_3 p202 q202
                   cases e202
                   replace hx202_0 := (HB.out.cell (World.block_lt_of_cell? w _ hx202_0)).trans hx202_0
                   replace hx202_1 := (HB.out.cell (World.block_lt_of_cell? w _ hx202_1)).trans hx202_1
                   replace p202 := eq_true p202
                   replace q202 := eq_true q202
                   go_wp2_with (first | ((with_reducible refine gate_dst (N := 8) rfl ?_); (try (refine gate_guard (by rfl) ?_; dsimp only)); refine box_event ?hg (N := 8) ?hd (cs := #[.int .i64 0, .string (⟨#[]⟩ : ByteArray)]) (t := 27) ?hr ?_; (case hd => rfl); (case hg => rfl); (case hr => first | (go_simp; done) | (go_simp; rfl)); intro gb203 hg w26 hbox hb; have n0_ := Aside0.mk (blk_below (g := gb199) (o := .cells #[.int .i64 ((rd_T25 l0 x16_1).f0), .slice (some ad202) ((rd_T25 l0 x16_1).f1).length c198_1] 25 (0, 0)) (by (with_reducible repeat (first | refine blk_drewN ?_ _ | refine blk_drew ?_ | refine blk_alloc ?_ _)); exact BK199.out) hb); have n1_ := Aside0.mk (below_step (by repeat (first | (with_reducible first | exact HB.out | apply below_alloc | apply pw_below_drewN | apply below_drew1 | refine below_set ?_ GE199.out) | exact HB.out)) hb); have n2_ := Aside0.mk (hbox); have n3_ := Aside0.mk ((by rw [hg]; exact (below_size (by repeat (first | (with_reducible first | exact HB.out | apply below_alloc | apply pw_below_drewN | apply below_drew1 | refine below_set ?_ GE199.out) | exact HB.out))) : w.heap.size ≤ gb203)); have n4_ := Aside0.mk ((by rw [hg]; exact (below_size (by repeat (first | (with_reducible first | exact HB.out | apply below_alloc | apply pw_below_drewN | apply below_drew1 | refine below_set ?_ GE199.out) | exact HB.out))) : w.heap.size ≤ gb203)); have n5_ := Aside0.mk ((by rw [hg]; exact Nat.ne_of_lt (blk_lt (g := gb199) (o := .cells #[.int .i64 ((rd_T25 l0 x16_1).f0), .slice (some ad202) ((rd_T25 l0 x16_1).f1).length c198_1] 25 (0, 0)) (by (with_reducible repeat (first | refine blk_drewN ?_ _ | refine blk_drew ?_ | refine blk_alloc ?_ _)); exact BK199.out)) : gb199 ≠ gb203)); have n6_ := Aside0.mk ((by rw [hg]; exact Nat.ne_of_gt (blk_lt (g := gb199) (o := .cells #[.int .i64 ((rd_T25 l0 x16_1).f0), .slice (some ad202) ((rd_T25 l0 x16_1).f1).length c198_1] 25 (0, 0)) (by (with_reducible repeat (first | refine blk_drewN ?_ _ | refine blk_drew ?_ | refine blk_alloc ?_ _)); exact BK199.out)) : gb203 ≠ gb199)); clear BK199; clear HB; have BK199 := n0_; have HB := n1_; have BK203 := n2_; have GW203 := n3_; have GE203 := n4_; have NB199_203 := n5_; have NB203_199 := n6_; clear n0_ n1_ n2_ n3_ n4_ n5_ n6_; clear hb hbox hg; have hnb27 := NB203_199.out; have hnc27 := NB199_203.out; have hcz28_0 : w26.cell? ⟨gb203, 0, none⟩ = some (.int .i64 0) := (blk_cell BK203.out 0).trans rfl; have hcz28_1 : w26.cell? ⟨gb203, 1, none⟩ = some (.string (⟨#[]⟩ : ByteArray)) := (blk_cell BK203.out 1).trans rfl; have hfz28_0 := blk_frozen BK203.out 0; have hfz28_1 := blk_frozen BK203.out 1; have p204 : 0 ≤ (x16_1 : Int) := of_decide_eq_true (by first | (with_reducible assumption) | assumption); have q204 : x16_1 < (l1.length : Int) := of_decide_eq_true (by first | (with_reducible assumption) | assumption); obtain ⟨ad204, A204_1, c204_1, e204, hx204_0, hx204_1, hl204_1, hi204_1⟩ := at_T25 HR1.out x16_1 p204 q204; cases e204; have hn204_0 : ad204.block ≠ gb203 := Nat.ne_of_lt (Nat.lt_of_lt_of_le (by have := World.block_lt_of_cell? _ _ hx204_0; first | rwa [add_block] at this | exact this) GW203.out); have hn204_1 : ad204.block ≠ gb203 := Nat.ne_of_lt (Nat.lt_of_lt_of_le (by have := World.block_lt_of_cell? _ _ hx204_0; first | rwa [add_block] at this | exact this) GW203.out); replace hx204_0 := (HB.out.cell (World.block_lt_of_cell? w _ hx204_0)).trans hx204_0; replace hx204_1 := (HB.out.cell (World.block_lt_of_cell? w _ hx204_1)).trans hx204_1; have HR204_1 := Aside0.mk hi204_1; have HC204_1 := Aside0.mk hl204_1; clear hi204_1 hl204_1; replace hx204_0 := (cell_far (p := ⟨gb203, 0, none⟩) (by first | (rw [add_block]; exact hn204_0) | (show (Addr.add _ _).block ≠ _; rw [add_block]; exact hn204_0) | exact hn204_0) (.int .i64 ((rd_T27 ((rd_T25 l0 x16_1).f1) x44_3).f0))).trans hx204_0; replace hx204_1 := (cell_far (p := ⟨gb203, 0, none⟩) (by first | (rw [add_block]; exact hn204_0) | (show (Addr.add _ _).block ≠ _; rw [add_block]; exact hn204_0) | exact hn204_0) (.int .i64 ((rd_T27 ((rd_T25 l0 x16_1).f1) x44_3).f0))).trans hx204_1; replace hx204_0 := (cell_far (p := ⟨gb203, 1, none⟩) (by first | (rw [add_block]; exact hn204_1) | (show (Addr.add _ _).block ≠ _; rw [add_block]; exact hn204_1) | exact hn204_1) (.string ((rd_T27 ((rd_T25 l0 x16_1).f1) x44_3).f1))).trans hx204_0; replace hx204_1 := (cell_far (p := ⟨gb203, 1, none⟩) (by first | (rw [add_block]; exact hn204_1) | (show (Addr.add _ _).block ≠ _; rw [add_block]; exact hn204_1) | exact hn204_1) (.string ((rd_T27 ((rd_T25 l0 x16_1).f1) x44_3).f1))).trans hx204_1; (try have hy204_0 := fun (n_ : Nat) => (show ((((w26.drewN n_).setCell ⟨gb203, 0, none⟩ (.int .i64 ((rd_T27 ((rd_T25 l0 x16_1).f1) x44_3).f0))).setCell ⟨gb203, 1, none⟩ (.string ((rd_T27 ((rd_T25 l0 x16_1).f1) x44_3).f1)))).cell? _ = some _ from hx204_0)); (try have hy204_1 := fun (n_ : Nat) => (show ((((w26.drewN n_).setCell ⟨gb203, 0, none⟩ (.int .i64 ((rd_T27 ((rd_T25 l0 x16_1).f1) x44_3).f0))).setCell ⟨gb203, 1, none⟩ (.string ((rd_T27 ((rd_T25 l0 x16_1).f1) x44_3).f1)))).cell? _ = some _ from hx204_1)); clear hn204_0; clear hn204_1; replace p204 := eq_true p204; replace q204 := eq_true q204; have p205 : 0 ≤ (x44_3 : Int) := of_decide_eq_true (by first | (with_reducible assumption) | assumption); have q205 : x44_3 < (((rd_T25 l1 x16_1).f1).length : Int) := of_decide_eq_true (by first | (with_reducible assumption) | assumption); obtain ⟨ad205, e205, hx205_0, hx205_1⟩ := at_T27 HR204_1.out x44_3 p205 q205; cases e205; have hn205_0 : ad205.block ≠ gb203 := Nat.ne_of_lt (Nat.lt_of_lt_of_le (by have := World.block_lt_of_cell? _ _ hx205_0; first | rwa [add_block] at this | exact this) GW203.out); have hn205_1 : ad205.block ≠ gb203 := Nat.ne_of_lt (Nat.lt_of_lt_of_le (by have := World.block_lt_of_cell? _ _ hx205_0; first | rwa [add_block] at this | exact this) GW203.out); replace hx205_0 := (HB.out.cell (World.block_lt_of_cell? w _ hx205_0)).trans hx205_0; replace hx205_1 := (HB.out.cell (World.block_lt_of_cell? w _ hx205_1)).trans hx205_1; replace hx205_0 := (cell_far (p := ⟨gb203, 0, none⟩) (by first | (rw [add_block]; exact hn205_0) | (show (Addr.add _ _).block ≠ _; rw [add_block]; exact hn205_0) | exact hn205_0) (.int .i64 ((rd_T27 ((rd_T25 l0 x16_1).f1) x44_3).f0))).trans hx205_0; replace hx205_1 := (cell_far (p := ⟨gb203, 0, none⟩) (by first | (rw [add_block]; exact hn205_0) | (show (Addr.add _ _).block ≠ _; rw [add_block]; exact hn205_0) | exact hn205_0) (.int .i64 ((rd_T27 ((rd_T25 l0 x16_1).f1) x44_3).f0))).trans hx205_1; replace hx205_0 := (cell_far (p := ⟨gb203, 1, none⟩) (by first | (rw [add_block]; exact hn205_1) | (show (Addr.add _ _).block ≠ _; rw [add_block]; exact hn205_1) | exact hn205_1) (.string ((rd_T27 ((rd_T25 l0 x16_1).f1) x44_3).f1))).trans hx205_0; replace hx205_1 := (cell_far (p := ⟨gb203, 1, none⟩) (by first | (rw [add_block]; exact hn205_1) | (show (Addr.add _ _).block ≠ _; rw [add_block]; exact hn205_1) | exact hn205_1) (.string ((rd_T27 ((rd_T25 l0 x16_1).f1) x44_3).f1))).trans hx205_1; (try have hy205_0 := fun (n_ : Nat) => (show ((((w26.drewN n_).setCell ⟨gb203, 0, none⟩ (.int .i64 ((rd_T27 ((rd_T25 l0 x16_1).f1) x44_3).f0))).setCell ⟨gb203, 1, none⟩ (.string ((rd_T27 ((rd_T25 l0 x16_1).f1) x44_3).f1)))).cell? _ = some _ from hx205_0)); (try have hy205_1 := fun (n_ : Nat) => (show ((((w26.drewN n_).setCell ⟨gb203, 0, none⟩ (.int .i64 ((rd_T27 ((rd_T25 l0 x16_1).f1) x44_3).f0))).setCell ⟨gb203, 1, none⟩ (.string ((rd_T27 ((rd_T25 l0 x16_1).f1) x44_3).f1)))).cell? _ = some _ from hx205_1)); clear hn205_0; clear hn205_1; replace p205 := eq_true p205; replace q205 := eq_true q205))
                   repeat (go_quiet (first | ((with_reducible refine gate_dst (N := 8) rfl ?_); (try (refine gate_guard (by rfl) ?_; dsimp only)); refine box_event ?hg (N := 8) ?hd (cs := #[.int .i64 0, .string (⟨#[]⟩ : ByteArray)]) (t := 27) ?hr ?_; (case hd => rfl); (case hg => rfl); (case hr => first | (go_simp; done) | (go_simp; rfl)); intro gb203 hg w26 hbox hb; have n0_ := Aside0.mk (blk_below (g := gb199) (o := .cells #[.int .i64 ((rd_T25 l0 x16_1).f0), .slice (some ad202) ((rd_T25 l0 x16_1).f1).length c198_1] 25 (0, 0)) (by (with_reducible repeat (first | refine blk_drewN ?_ _ | refine blk_drew ?_ | refine blk_alloc ?_ _)); exact BK199.out) hb); have n1_ := Aside0.mk (below_step (by repeat (first | (with_reducible first | exact HB.out | apply below_alloc | apply pw_below_drewN | apply below_drew1 | refine below_set ?_ GE199.out) | exact HB.out)) hb); have n2_ := Aside0.mk (hbox); have n3_ := Aside0.mk ((by rw [hg]; exact (below_size (by repeat (first | (with_reducible first | exact HB.out | apply below_alloc | apply pw_below_drewN | apply below_drew1 | refine below_set ?_ GE199.out) | exact HB.out))) : w.heap.size ≤ gb203)); have n4_ := Aside0.mk ((by rw [hg]; exact (below_size (by repeat (first | (with_reducible first | exact HB.out | apply below_alloc | apply pw_below_drewN | apply below_drew1 | refine below_set ?_ GE199.out) | exact HB.out))) : w.heap.size ≤ gb203)); have n5_ := Aside0.mk ((by rw [hg]; exact Nat.ne_of_lt (blk_lt (g := gb199) (o := .cells #[.int .i64 ((rd_T25 l0 x16_1).f0), .slice (some ad202) ((rd_T25 l0 x16_1).f1).length c198_1] 25 (0, 0)) (by (with_reducible repeat (first | refine blk_drewN ?_ _ | refine blk_drew ?_ | refine blk_alloc ?_ _)); exact BK199.out)) : gb199 ≠ gb203)); have n6_ := Aside0.mk ((by rw [hg]; exact Nat.ne_of_gt (blk_lt (g := gb199) (o := .cells #[.int .i64 ((rd_T25 l0 x16_1).f0), .slice (some ad202) ((rd_T25 l0 x16_1).f1).length c198_1] 25 (0, 0)) (by (with_reducible repeat (first | refine blk_drewN ?_ _ | refine blk_drew ?_ | refine blk_alloc ?_ _)); exact BK199.out)) : gb203 ≠ gb199)); clear BK199; clear HB; have BK199 := n0_; have HB := n1_; have BK203 := n2_; have GW203 := n3_; have GE203 := n4_; have NB199_203 := n5_; have NB203_199 := n6_; clear n0_ n1_ n2_ n3_ n4_ n5_ n6_; clear hb hbox hg; have hnb27 := NB203_199.out; have hnc27 := NB199_203.out; have hcz28_0 : w26.cell? ⟨gb203, 0, none⟩ = some (.int .i64 0) := (blk_cell BK203.out 0).trans rfl; have hcz28_1 : w26.cell? ⟨gb203, 1, none⟩ = some (.string (⟨#[]⟩ : ByteArray)) := (blk_cell BK203.out 1).trans rfl; have hfz28_0 := blk_frozen BK203.out 0; have hfz28_1 := blk_frozen BK203.out 1; have p204 : 0 ≤ (x16_1 : Int) := of_decide_eq_true (by first | (with_reducible assumption) | assumption); have q204 : x16_1 < (l1.length : Int) := of_decide_eq_true (by first | (with_reducible assumption) | assumption); obtain ⟨ad204, A204_1, c204_1, e204, hx204_0, hx204_1, hl204_1, hi204_1⟩ := at_T25 HR1.out x16_1 p204 q204; cases e204; have hn204_0 : ad204.block ≠ gb203 := Nat.ne_of_lt (Nat.lt_of_lt_of_le (by have := World.block_lt_of_cell? _ _ hx204_0; first | rwa [add_block] at this | exact this) GW203.out); have hn204_1 : ad204.block ≠ gb203 := Nat.ne_of_lt (Nat.lt_of_lt_of_le (by have := World.block_lt_of_cell? _ _ hx204_0; first | rwa [add_block] at this | exact this) GW203.out); replace hx204_0 := (HB.out.cell (World.block_lt_of_cell? w _ hx204_0)).trans hx204_0; replace hx204_1 := (HB.out.cell (World.block_lt_of_cell? w _ hx204_1)).trans hx204_1; have HR204_1 := Aside0.mk hi204_1; have HC204_1 := Aside0.mk hl204_1; clear hi204_1 hl204_1; replace hx204_0 := (cell_far (p := ⟨gb203, 0, none⟩) (by first | (rw [add_block]; exact hn204_0) | (show (Addr.add _ _).block ≠ _; rw [add_block]; exact hn204_0) | exact hn204_0) (.int .i64 ((rd_T27 ((rd_T25 l0 x16_1).f1) x44_3).f0))).trans hx204_0; replace hx204_1 := (cell_far (p := ⟨gb203, 0, none⟩) (by first | (rw [add_block]; exact hn204_0) | (show (Addr.add _ _).block ≠ _; rw [add_block]; exact hn204_0) | exact hn204_0) (.int .i64 ((rd_T27 ((rd_T25 l0 x16_1).f1) x44_3).f0))).trans hx204_1; replace hx204_0 := (cell_far (p := ⟨gb203, 1, none⟩) (by first | (rw [add_block]; exact hn204_1) | (show (Addr.add _ _).block ≠ _; rw [add_block]; exact hn204_1) | exact hn204_1) (.string ((rd_T27 ((rd_T25 l0 x16_1).f1) x44_3).f1))).trans hx204_0; replace hx204_1 := (cell_far (p := ⟨gb203, 1, none⟩) (by first | (rw [add_block]; exact hn204_1) | (show (Addr.add _ _).block ≠ _; rw [add_block]; exact hn204_1) | exact hn204_1) (.string ((rd_T27 ((rd_T25 l0 x16_1).f1) x44_3).f1))).trans hx204_1; (try have hy204_0 := fun (n_ : Nat) => (show ((((w26.drewN n_).setCell ⟨gb203, 0, none⟩ (.int .i64 ((rd_T27 ((rd_T25 l0 x16_1).f1) x44_3).f0))).setCell ⟨gb203, 1, none⟩ (.string ((rd_T27 ((rd_T25 l0 x16_1).f1) x44_3).f1)))).cell? _ = some _ from hx204_0)); (try have hy204_1 := fun (n_ : Nat) => (show ((((w26.drewN n_).setCell ⟨gb203, 0, none⟩ (.int .i64 ((rd_T27 ((rd_T25 l0 x16_1).f1) x44_3).f0))).setCell ⟨gb203, 1, none⟩ (.string ((rd_T27 ((rd_T25 l0 x16_1).f1) x44_3).f1)))).cell? _ = some _ from hx204_1)); clear hn204_0; clear hn204_1; replace p204 := eq_true p204; replace q204 := eq_true q204; have p205 : 0 ≤ (x44_3 : Int) := of_decide_eq_true (by first | (with_reducible assumption) | assumption); have q205 : x44_3 < (((rd_T25 l1 x16_1).f1).length : Int) := of_decide_eq_true (by first | (with_reducible assumption) | assumption); obtain ⟨ad205, e205, hx205_0, hx205_1⟩ := at_T27 HR204_1.out x44_3 p205 q205; cases e205; have hn205_0 : ad205.block ≠ gb203 := Nat.ne_of_lt (Nat.lt_of_lt_of_le (by have := World.block_lt_of_cell? _ _ hx205_0; first | rwa [add_block] at this | exact this) GW203.out); have hn205_1 : ad205.block ≠ gb203 := Nat.ne_of_lt (Nat.lt_of_lt_of_le (by have := World.block_lt_of_cell? _ _ hx205_0; first | rwa [add_block] at this | exact this) GW203.out); replace hx205_0 := (HB.out.cell (World.block_lt_of_cell? w _ hx205_0)).trans hx205_0; replace hx205_1 := (HB.out.cell (World.block_lt_of_cell? w _ hx205_1)).trans hx205_1; replace hx205_0 := (cell_far (p := ⟨gb203, 0, none⟩) (by first | (rw [add_block]; exact hn205_0) | (show (Addr.add _ _).block ≠ _; rw [add_block]; exact hn205_0) | exact hn205_0) (.int .i64 ((rd_T27 ((rd_T25 l0 x16_1).f1) x44_3).f0))).trans hx205_0; replace hx205_1 := (cell_far (p := ⟨gb203, 0, none⟩) (by first | (rw [add_block]; exact hn205_0) | (show (Addr.add _ _).block ≠ _; rw [add_block]; exact hn205_0) | exact hn205_0) (.int .i64 ((rd_T27 ((rd_T25 l0 x16_1).f1) x44_3).f0))).trans hx205_1; replace hx205_0 := (cell_far (p := ⟨gb203, 1, none⟩) (by first | (rw [add_block]; exact hn205_1) | (show (Addr.add _ _).block ≠ _; rw [add_block]; exact hn205_1) | exact hn205_1) (.string ((rd_T27 ((rd_T25 l0 x16_1).f1) x44_3).f1))).trans hx205_0; replace hx205_1 := (cell_far (p := ⟨gb203, 1, none⟩) (by first | (rw [add_block]; exact hn205_1) | (show (Addr.add _ _).block ≠ _; rw [add_block]; exact hn205_1) | exact hn205_1) (.string ((rd_T27 ((rd_T25 l0 x16_1).f1) x44_3).f1))).trans hx205_1; (try have hy205_0 := fun (n_ : Nat) => (show ((((w26.drewN n_).setCell ⟨gb203, 0, none⟩ (.int .i64 ((rd_T27 ((rd_T25 l0 x16_1).f1) x44_3).f0))).setCell ⟨gb203, 1, none⟩ (.string ((rd_T27 ((rd_T25 l0 x16_1).f1) x44_3).f1)))).cell? _ = some _ from hx205_0)); (try have hy205_1 := fun (n_ : Nat) => (show ((((w26.drewN n_).setCell ⟨gb203, 0, none⟩ (.int .i64 ((rd_T27 ((rd_T25 l0 x16_1).f1) x44_3).f0))).setCell ⟨gb203, 1, none⟩ (.string ((rd_T27 ((rd_T25 l0 x16_1).f1) x44_3).f1)))).cell? _ = some _ from hx205_1)); clear hn205_0; clear hn205_1; replace p205 := eq_true p205; replace q205 := eq_true q205)); try go_wp2_with (first | ((with_reducible refine gate_dst (N := 8) rfl ?_); (try (refine gate_guard (by rfl) ?_; dsimp only)); refine box_event ?hg (N := 8) ?hd (cs := #[.int .i64 0, .string (⟨#[]⟩ : ByteArray)]) (t := 27) ?hr ?_; (case hd => rfl); (case hg => rfl); (case hr => first | (go_simp; done) | (go_simp; rfl)); intro gb203 hg w26 hbox hb; have n0_ := Aside0.mk (blk_below (g := gb199) (o := .cells #[.int .i64 ((rd_T25 l0 x16_1).f0), .slice (some ad202) ((rd_T25 l0 x16_1).f1).length c198_1] 25 (0, 0)) (by (with_reducible repeat (first | refine blk_drewN ?_ _ | refine blk_drew ?_ | refine blk_alloc ?_ _)); exact BK199.out) hb); have n1_ := Aside0.mk (below_step (by repeat (first | (with_reducible first | exact HB.out | apply below_alloc | apply pw_below_drewN | apply below_drew1 | refine below_set ?_ GE199.out) | exact HB.out)) hb); have n2_ := Aside0.mk (hbox); have n3_ := Aside0.mk ((by rw [hg]; exact (below_size (by repeat (first | (with_reducible first | exact HB.out | apply below_alloc | apply pw_below_drewN | apply below_drew1 | refine below_set ?_ GE199.out) | exact HB.out))) : w.heap.size ≤ gb203)); have n4_ := Aside0.mk ((by rw [hg]; exact (below_size (by repeat (first | (with_reducible first | exact HB.out | apply below_alloc | apply pw_below_drewN | apply below_drew1 | refine below_set ?_ GE199.out) | exact HB.out))) : w.heap.size ≤ gb203)); have n5_ := Aside0.mk ((by rw [hg]; exact Nat.ne_of_lt (blk_lt (g := gb199) (o := .cells #[.int .i64 ((rd_T25 l0 x16_1).f0), .slice (some ad202) ((rd_T25 l0 x16_1).f1).length c198_1] 25 (0, 0)) (by (with_reducible repeat (first | refine blk_drewN ?_ _ | refine blk_drew ?_ | refine blk_alloc ?_ _)); exact BK199.out)) : gb199 ≠ gb203)); have n6_ := Aside0.mk ((by rw [hg]; exact Nat.ne_of_gt (blk_lt (g := gb199) (o := .cells #[.int .i64 ((rd_T25 l0 x16_1).f0), .slice (some ad202) ((rd_T25 l0 x16_1).f1).length c198_1] 25 (0, 0)) (by (with_reducible repeat (first | refine blk_drewN ?_ _ | refine blk_drew ?_ | refine blk_alloc ?_ _)); exact BK199.out)) : gb203 ≠ gb199)); clear BK199; clear HB; have BK199 := n0_; have HB := n1_; have BK203 := n2_; have GW203 := n3_; have GE203 := n4_; have NB199_203 := n5_; have NB203_199 := n6_; clear n0_ n1_ n2_ n3_ n4_ n5_ n6_; clear hb hbox hg; have hnb27 := NB203_199.out; have hnc27 := NB199_203.out; have hcz28_0 : w26.cell? ⟨gb203, 0, none⟩ = some (.int .i64 0) := (blk_cell BK203.out 0).trans rfl; have hcz28_1 : w26.cell? ⟨gb203, 1, none⟩ = some (.string (⟨#[]⟩ : ByteArray)) := (blk_cell BK203.out 1).trans rfl; have hfz28_0 := blk_frozen BK203.out 0; have hfz28_1 := blk_frozen BK203.out 1; have p204 : 0 ≤ (x16_1 : Int) := of_decide_eq_true (by first | (with_reducible assumption) | assumption); have q204 : x16_1 < (l1.length : Int) := of_decide_eq_true (by first | (with_reducible assumption) | assumption); obtain ⟨ad204, A204_1, c204_1, e204, hx204_0, hx204_1, hl204_1, hi204_1⟩ := at_T25 HR1.out x16_1 p204 q204; cases e204; have hn204_0 : ad204.block ≠ gb203 := Nat.ne_of_lt (Nat.lt_of_lt_of_le (by have := World.block_lt_of_cell? _ _ hx204_0; first | rwa [add_block] at this | exact this) GW203.out); have hn204_1 : ad204.block ≠ gb203 := Nat.ne_of_lt (Nat.lt_of_lt_of_le (by have := World.block_lt_of_cell? _ _ hx204_0; first | rwa [add_block] at this | exact this) GW203.out); replace hx204_0 := (HB.out.cell (World.block_lt_of_cell? w _ hx204_0)).trans hx204_0; replace hx204_1 := (HB.out.cell (World.block_lt_of_cell? w _ hx204_1)).trans hx204_1; have HR204_1 := Aside0.mk hi204_1; have HC204_1 := Aside0.mk hl204_1; clear hi204_1 hl204_1; replace hx204_0 := (cell_far (p := ⟨gb203, 0, none⟩) (by first | (rw [add_block]; exact hn204_0) | (show (Addr.add _ _).block ≠ _; rw [add_block]; exact hn204_0) | exact hn204_0) (.int .i64 ((rd_T27 ((rd_T25 l0 x16_1).f1) x44_3).f0))).trans hx204_0; replace hx204_1 := (cell_far (p := ⟨gb203, 0, none⟩) (by first | (rw [add_block]; exact hn204_0) | (show (Addr.add _ _).block ≠ _; rw [add_block]; exact hn204_0) | exact hn204_0) (.int .i64 ((rd_T27 ((rd_T25 l0 x16_1).f1) x44_3).f0))).trans hx204_1; replace hx204_0 := (cell_far (p := ⟨gb203, 1, none⟩) (by first | (rw [add_block]; exact hn204_1) | (show (Addr.add _ _).block ≠ _; rw [add_block]; exact hn204_1) | exact hn204_1) (.string ((rd_T27 ((rd_T25 l0 x16_1).f1) x44_3).f1))).trans hx204_0; replace hx204_1 := (cell_far (p := ⟨gb203, 1, none⟩) (by first | (rw [add_block]; exact hn204_1) | (show (Addr.add _ _).block ≠ _; rw [add_block]; exact hn204_1) | exact hn204_1) (.string ((rd_T27 ((rd_T25 l0 x16_1).f1) x44_3).f1))).trans hx204_1; (try have hy204_0 := fun (n_ : Nat) => (show ((((w26.drewN n_).setCell ⟨gb203, 0, none⟩ (.int .i64 ((rd_T27 ((rd_T25 l0 x16_1).f1) x44_3).f0))).setCell ⟨gb203, 1, none⟩ (.string ((rd_T27 ((rd_T25 l0 x16_1).f1) x44_3).f1)))).cell? _ = some _ from hx204_0)); (try have hy204_1 := fun (n_ : Nat) => (show ((((w26.drewN n_).setCell ⟨gb203, 0, none⟩ (.int .i64 ((rd_T27 ((rd_T25 l0 x16_1).f1) x44_3).f0))).setCell ⟨gb203, 1, none⟩ (.string ((rd_T27 ((rd_T25 l0 x16_1).f1) x44_3).f1)))).cell? _ = some _ from hx204_1)); clear hn204_0; clear hn204_1; replace p204 := eq_true p204; replace q204 := eq_true q204; have p205 : 0 ≤ (x44_3 : Int) := of_decide_eq_true (by first | (with_reducible assumption) | assumption); have q205 : x44_3 < (((rd_T25 l1 x16_1).f1).length : Int) := of_decide_eq_true (by first | (with_reducible assumption) | assumption); obtain ⟨ad205, e205, hx205_0, hx205_1⟩ := at_T27 HR204_1.out x44_3 p205 q205; cases e205; have hn205_0 : ad205.block ≠ gb203 := Nat.ne_of_lt (Nat.lt_of_lt_of_le (by have := World.block_lt_of_cell? _ _ hx205_0; first | rwa [add_block] at this | exact this) GW203.out); have hn205_1 : ad205.block ≠ gb203 := Nat.ne_of_lt (Nat.lt_of_lt_of_le (by have := World.block_lt_of_cell? _ _ hx205_0; first | rwa [add_block] at this | exact this) GW203.out); replace hx205_0 := (HB.out.cell (World.block_lt_of_cell? w _ hx205_0)).trans hx205_0; replace hx205_1 := (HB.out.cell (World.block_lt_of_cell? w _ hx205_1)).trans hx205_1; replace hx205_0 := (cell_far (p := ⟨gb203, 0, none⟩) (by first | (rw [add_block]; exact hn205_0) | (show (Addr.add _ _).block ≠ _; rw [add_block]; exact hn205_0) | exact hn205_0) (.int .i64 ((rd_T27 ((rd_T25 l0 x16_1).f1) x44_3).f0))).trans hx205_0; replace hx205_1 := (cell_far (p := ⟨gb203, 0, none⟩) (by first | (rw [add_block]; exact hn205_0) | (show (Addr.add _ _).block ≠ _; rw [add_block]; exact hn205_0) | exact hn205_0) (.int .i64 ((rd_T27 ((rd_T25 l0 x16_1).f1) x44_3).f0))).trans hx205_1; replace hx205_0 := (cell_far (p := ⟨gb203, 1, none⟩) (by first | (rw [add_block]; exact hn205_1) | (show (Addr.add _ _).block ≠ _; rw [add_block]; exact hn205_1) | exact hn205_1) (.string ((rd_T27 ((rd_T25 l0 x16_1).f1) x44_3).f1))).trans hx205_0; replace hx205_1 := (cell_far (p := ⟨gb203, 1, none⟩) (by first | (rw [add_block]; exact hn205_1) | (show (Addr.add _ _).block ≠ _; rw [add_block]; exact hn205_1) | exact hn205_1) (.string ((rd_T27 ((rd_T25 l0 x16_1).f1) x44_3).f1))).trans hx205_1; (try have hy205_0 := fun (n_ : Nat) => (show ((((w26.drewN n_).setCell ⟨gb203, 0, none⟩ (.int .i64 ((rd_T27 ((rd_T25 l0 x16_1).f1) x44_3).f0))).setCell ⟨gb203, 1, none⟩ (.string ((rd_T27 ((rd_T25 l0 x16_1).f1) x44_3).f1)))).cell? _ = some _ from hx205_0)); (try have hy205_1 := fun (n_ : Nat) => (show ((((w26.drewN n_).setCell ⟨gb203, 0, none⟩ (.int .i64 ((rd_T27 ((rd_T25 l0 x16_1).f1) x44_3).f0))).setCell ⟨gb203, 1, none⟩ (.string ((rd_T27 ((rd_T25 l0 x16_1).f1) x44_3).f1)))).cell? _ = some _ from hx205_1)); clear hn205_0; clear hn205_1; replace p205 := eq_true p205; replace q205 := eq_true q205)))
                   go_roundg k3
                   case measure => have := HK1.out; have := HJ6.out; have := HK3.out; omega
                   case rel => exact ⟨(wrap64 (x44_3 + 1)), (by first | rfl | (simp; done) | (simp [*]; done)), H', ⟨by have := HK1.out; have := HJ6.out; have := HK3.out; omega⟩, ⟨by (with_reducible repeat (first | refine blk_drewN ?_ _ | refine blk_drew ?_ | refine blk_alloc ?_ _)); refine blk_far ?_ NB199_203.out _; (with_reducible repeat (first | refine blk_drewN ?_ _ | refine blk_drew ?_ | refine blk_alloc ?_ _)); refine blk_far ?_ NB199_203.out _; (with_reducible repeat (first | refine blk_drewN ?_ _ | refine blk_drew ?_ | refine blk_alloc ?_ _)); exact BK199.out⟩, ⟨by repeat (first | (with_reducible first | exact HB.out | apply below_alloc | apply pw_below_drewN | apply below_drew1 | refine below_set ?_ GE199.out | refine below_set ?_ GE203.out) | exact HB.out)⟩⟩
                 ·rw [if_neg c21] at H
                  exact absurd H (by simp)
                ·rw [if_neg c20] at H
                 exact absurd H (by simp)
               ·rw [if_neg c19] at H
                exact absurd H (by simp)
              ·rw [if_neg c18] at H
               exact absurd H (by simp)
             ·rw [if_neg c17] at H
              exact absurd H (by simp)
            ·rw [if_neg c16] at H
             have c16b0 : decide (x44_3 < (((rd_T25 l0 x16_1).f1).length : Int)) = false := decide_eq_false c16
             clear c16
             have H' := Aside0.mk H
             clear H
             go_wp2
             repeat (go_quiet (fail); try go_wp2)
             go_roundg k3
             case measure => have := HK1.out; have := HJ6.out; have := HK3.out; omega
             case rel => exact ⟨(wrap64 (x16_1 + 1)), (by first | rfl | (simp; done) | (simp [*]; done)), H', ⟨by have := HK1.out; have := HJ6.out; have := HK3.out; omega⟩, ⟨by repeat (first | (with_reducible first | exact HB.out | apply below_alloc | apply pw_below_drewN | apply below_drew1 | refine below_set ?_ GE199.out) | exact HB.out)⟩⟩
      ·rw [if_neg c6] at H
       exact absurd H (by simp)
     ·rw [if_neg c5] at H
      exact absurd H (by simp)
    ·rw [if_neg c4] at H
     have c4b0 : decide (x16_1 < (l0.length : Int)) = false := decide_eq_false c4
     clear c4
     obtain rfl := Option.some.inj H
     go_wp2
     repeat (go_quiet (fail); try go_wp2)
     go_ret
     exact ⟨by first | rfl | (simp [errW_none, errW_some] <;> rfl) | (simp [*, errW_none, errW_some] <;> rfl), by repeat (first | (with_reducible first | exact HB.out | apply below_alloc | apply pw_below_drewN | apply below_drew1) | exact HB.out)⟩
 ·rw [if_neg c3] at H
  have c3b0 : ((l0.length : Int) == (l1.length : Int)) = false := beq_eq_false_iff_ne.mpr c3
  have c3b1 : ((l0.length : Int) != (l1.length : Int)) = true := bne_iff_ne.mpr c3
  have c3b2 : (l0.length == l1.length) = false := by first | simpa using c3 | (simp at c3 ⊢; omega)
  obtain rfl := Option.some.inj H
  go_enter Try.func12, Try.ntmps12
  go_wp2
  repeat (go_quiet (fail); try go_wp2)
  go_ret
  exact ⟨by first | rfl | (simp [errW_none, errW_some] <;> rfl) | (simp [*, errW_none, errW_some] <;> rfl), by repeat (first | (with_reducible first | exact HB.out | apply below_alloc | apply pw_below_drewN | apply below_drew1) | exact HB.out)⟩

/-! ### keyeventlaw04_awake: function 13 -/
def keyeventlaw04_awake.f (k : Nat)  : Option (Bool) := (stream_Encode.f k (([(⟨1, ([] : List (S27))⟩ : S25)] : List (S25)))).bind fun bt209 => (if bt209.1.toList = ([45, 65, 65, 65] : List UInt8) then (some (bt209.2 == 0)) else (some false))
theorem keyeventlaw04_awake.mono : ∀ k, LeO (keyeventlaw04_awake.f k ) (keyeventlaw04_awake.f (k + 1) ) := by
  intro  k
  unfold keyeventlaw04_awake.f
  repeat' first
      | (with_reducible exact stream_Encode.mono _ _)
      | (with_reducible exact LeO.refl _)
      | (with_reducible exact LeO.none _)
      | (with_reducible refine LeO.ite ?_ ?_)
      | (with_reducible refine LeO.bind ?_ (fun _ => ?_))
      | exact stream_Encode.mono _ _
      | exact LeO.none _
      | refine LeO.ite ?_ ?_
      | refine LeO.bind ?_ (fun _ => ?_)
set_option maxHeartbeats 8000000 in
set_option maxRecDepth 100000 in
theorem keyeventlaw04_awake.calls (k : Nat)  (r : Bool) (w : World) (h : keyeventlaw04_awake.f k  = some r) :
    Calls Try.prog 13 #[] w fun e w' => e = .returned (.bool r) ∧ Below w.heap.size w w' := by
 have hu25 := Try.underlying25
 have HB := Aside0.mk (Below.refl w.heap.size w)
 have H : ((stream_Encode.f k (([(⟨1, ([] : List (S27))⟩ : S25)] : List (S25)))).bind fun bt209 => (if bt209.1.toList = ([45, 65, 65, 65] : List UInt8) then (some (bt209.2 == 0)) else (some false))) = some r := h
 clear h
 obtain ⟨y206, hy206⟩ : ∃ y_ : List (S25), y_ = (([(⟨1, ([] : List (S27))⟩ : S25)] : List (S25))) := ⟨_, rfl⟩
 replace H : ((stream_Encode.f k y206).bind fun bt209 => (if bt209.1.toList = ([45, 65, 65, 65] : List UInt8) then (some (bt209.2 == 0)) else (some false))) = some r := by first | (rw [hy206]; with_reducible exact H) | (have H2_ := (Option.bind_some _ _).symm.trans H; rw [hy206]; with_reducible exact H2_) | (have H2_ := (Option.bind_some _ _).symm.trans H; with_reducible exact H2_) | with_reducible exact H | (rw [hy206]; exact H) | exact H
 have Ny206 := Aside0.mk hy206
 clear hy206
 replace H := Option.bind_eq_some_iff.mp H
 obtain ⟨⟨t209, t210⟩, A10, H⟩ := H
 replace H : (if t209.toList = ([45, 65, 65, 65] : List UInt8) then (some (t210 == 0)) else (some false)) = some r := H
 have A1 := Aside0.mk A10
 clear A10
 by_cases c2 : t209.toList = ([45, 65, 65, 65] : List UInt8)
 ·rw [if_pos c2] at H
  have c2b0 : (t209.toList == ([45, 65, 65, 65] : List UInt8)) = true := beq_iff_eq.mpr c2
  have c2b1 : (t209.toList != ([45, 65, 65, 65] : List UInt8)) = false := bne_eq_false_iff_eq.mpr c2
  clear c2
  obtain rfl := Option.some.inj H
  go_enter Try.func13, Try.ntmps13
  go_wp2_with (first | ((with_reducible refine gate_dst (N := 5) rfl ?_); refine Kd.S_lit k25 _ 25 ?hg (N := 5) ?hd (xs := ([(⟨1, ([] : List (S27))⟩ : S25)] : List (S25))) (inner := [.int .i64 1, .slice none 0 0]) (ok := fun _ => True) (okp := fun _ => True) ?hr ?hp (fun _ hk => hk) trivial (Below.refl _ _) (Nat.le_refl _) (by simp) ?_; (case hd => rfl); (case hg => rfl); (case hr => first | (go_simp; done) | (go_simp; rfl)); (case hp => exact (Reps.c2 (show Kd.M k25 _ _ _ (⟨1, ([] : List (S27))⟩ : S25) [.int .i64 1, .slice none 0 0] from (k25_mkM _ _ _ (⟨1, ([] : List (S27))⟩ : S25) (Kd.R_nil _ _ _ _ _))) (Reps.none _ _))); intro v207 w3 ho4 hb hg_ hnew_; clear hg_ hnew_; (first | rw [← Ny206.out] at ho4 | (simp only [Int.reduceToNat] at ho4; rw [← Ny206.out] at ho4)); have n0_ := Aside0.mk (Kd.S_lower ho4 (below_size (by repeat (first | (with_reducible first | exact HB.out | apply below_alloc | apply pw_below_drewN | apply below_drew1) | exact HB.out)))); have n1_ := Aside0.mk (below_step (by repeat (first | (with_reducible first | exact HB.out | apply below_alloc | apply pw_below_drewN | apply below_drew1) | exact HB.out)) hb); clear HB; have HO208 := n0_; have HB := n1_; clear n0_ n1_; clear hb ho4; obtain ⟨Ao5, co5, eo5⟩ := Kd.S_slice HO208.out; subst eo5) | ((with_reducible refine gate_callee (f := 8) rfl ?_); refine goesL_ (some 6) rfl rfl Try.func8 (by kernel_rfl) rfl #[.slice Ao5 y206.length co5] rfl (by (try simp only [List.map_toArray, List.map_cons, List.map_nil]); first | done | rfl | (simp only [List.length_drop, List.length_take]; rfl)) ?_; (with_reducible refine (stream_Encode.calls k _ _ y206 t209 t210 _ ?side1 ?side2 A1.out).mono ?_); (case side1 => repeat (first | exact (Kd.S_reads' HO208.out).2.2 | (with_reducible refine Kd.C_alloc ?_ _) | (with_reducible refine Kd.C_drewN ?_ _) | (with_reducible refine Kd.C_drew ?_))); (case side2 => exact (Kd.S_reads' HO208.out).2.1); rintro e w6 ⟨rfl, hb⟩; refine ⟨_, rfl, ?_⟩; have n0_ := Aside0.mk (Kd.S_below (by (with_reducible repeat (first | apply Kd.S_alloc | apply Kd.S_drewN | apply Kd.S_drew)); exact HO208.out) hb); have n1_ := Aside0.mk (below_step (by repeat (first | (with_reducible first | exact HB.out | apply below_alloc | apply pw_below_drewN | apply below_drew1) | exact HB.out)) hb); clear HO208; clear HB; have HO208 := n0_; have HB := n1_; clear n0_ n1_; (try clear hb); (try clear hb2); (try clear hk); (try clear hi)))
  go_ret
  exact ⟨by first | rfl | (simp [errW_none, errW_some] <;> rfl) | (simp [*, errW_none, errW_some] <;> rfl), by repeat (first | (with_reducible first | exact HB.out | apply below_alloc | apply pw_below_drewN | apply below_drew1) | exact HB.out)⟩
 ·rw [if_neg c2] at H
  have c2b0 : (t209.toList == ([45, 65, 65, 65] : List UInt8)) = false := beq_eq_false_iff_ne.mpr c2
  have c2b1 : (t209.toList != ([45, 65, 65, 65] : List UInt8)) = true := bne_iff_ne.mpr c2
  obtain rfl := Option.some.inj H
  go_enter Try.func13, Try.ntmps13
  go_wp2_with (first | ((with_reducible refine gate_dst (N := 5) rfl ?_); refine Kd.S_lit k25 _ 25 ?hg (N := 5) ?hd (xs := ([(⟨1, ([] : List (S27))⟩ : S25)] : List (S25))) (inner := [.int .i64 1, .slice none 0 0]) (ok := fun _ => True) (okp := fun _ => True) ?hr ?hp (fun _ hk => hk) trivial (Below.refl _ _) (Nat.le_refl _) (by simp) ?_; (case hd => rfl); (case hg => rfl); (case hr => first | (go_simp; done) | (go_simp; rfl)); (case hp => exact (Reps.c2 (show Kd.M k25 _ _ _ (⟨1, ([] : List (S27))⟩ : S25) [.int .i64 1, .slice none 0 0] from (k25_mkM _ _ _ (⟨1, ([] : List (S27))⟩ : S25) (Kd.R_nil _ _ _ _ _))) (Reps.none _ _))); intro v207 w7 ho8 hb hg_ hnew_; clear hg_ hnew_; (first | rw [← Ny206.out] at ho8 | (simp only [Int.reduceToNat] at ho8; rw [← Ny206.out] at ho8)); have n0_ := Aside0.mk (Kd.S_lower ho8 (below_size (by repeat (first | (with_reducible first | exact HB.out | apply below_alloc | apply pw_below_drewN | apply below_drew1) | exact HB.out)))); have n1_ := Aside0.mk (below_step (by repeat (first | (with_reducible first | exact HB.out | apply below_alloc | apply pw_below_drewN | apply below_drew1) | exact HB.out)) hb); clear HB; have HO208 := n0_; have HB := n1_; clear n0_ n1_; clear hb ho8; obtain ⟨Ao9, co9, eo9⟩ := Kd.S_slice HO208.out; subst eo9) | ((with_reducible refine gate_callee (f := 8) rfl ?_); refine goesL_ (some 6) rfl rfl Try.func8 (by kernel_rfl) rfl #[.slice Ao9 y206.length co9] rfl (by (try simp only [List.map_toArray, List.map_cons, List.map_nil]); first | done | rfl | (simp only [List.length_drop, List.length_take]; rfl)) ?_; (with_reducible refine (stream_Encode.calls k _ _ y206 t209 t210 _ ?side1 ?side2 A1.out).mono ?_); (case side1 => repeat (first | exact (Kd.S_reads' HO208.out).2.2 | (with_reducible refine Kd.C_alloc ?_ _) | (with_reducible refine Kd.C_drewN ?_ _) | (with_reducible refine Kd.C_drew ?_))); (case side2 => exact (Kd.S_reads' HO208.out).2.1); rintro e w10 ⟨rfl, hb⟩; refine ⟨_, rfl, ?_⟩; have n0_ := Aside0.mk (Kd.S_below (by (with_reducible repeat (first | apply Kd.S_alloc | apply Kd.S_drewN | apply Kd.S_drew)); exact HO208.out) hb); have n1_ := Aside0.mk (below_step (by repeat (first | (with_reducible first | exact HB.out | apply below_alloc | apply pw_below_drewN | apply below_drew1) | exact HB.out)) hb); clear HO208; clear HB; have HO208 := n0_; have HB := n1_; clear n0_ n1_; (try clear hb); (try clear hb2); (try clear hk); (try clear hi)))
  go_ret
  exact ⟨by first | rfl | (simp [errW_none, errW_some] <;> rfl) | (simp [*, errW_none, errW_some] <;> rfl), by repeat (first | (with_reducible first | exact HB.out | apply below_alloc | apply pw_below_drewN | apply below_drew1) | exact HB.out)⟩

/-! ### keyeventkit_Light: function 14 -/
def keyeventkit_Light.f (l0 : List Int) : Option (Bool) := some (decide ((l0.length : Int) ≤ 500))
set_option maxHeartbeats 8000000 in
set_option maxRecDepth 100000 in
theorem keyeventkit_Light.calls (A0 : Option Addr) (c0 : Nat) (l0 : List Int) (r : Bool) (w : World) (hr0 : Kd.C (Kd.int .i64) w A0 l0.length l0) (hc0 : l0.length ≤ c0) (h : keyeventkit_Light.f l0 = some r) :
    Calls Try.prog 14 #[.slice A0 l0.length c0] w fun e w' => e = .returned (.bool r) ∧ Drawn0 w w' := by
 have HR0 := Aside0.mk hr0
 have HC0 := Aside0.mk hc0
 clear hr0 hc0
 have H : (some (decide ((l0.length : Int) ≤ 500))) = some r := h
 clear h
 obtain rfl := Option.some.inj H
 go_enter Try.func14, Try.ntmps14
 go_wp2
 go_ret
 exact ⟨by first | rfl | (simp; done) | (simp [*]; done), by repeat (first | exact Drawn0.refl _ | apply Drawn0.step)⟩

end Go.Proofs.Ytookjdhfpbmjkaa.X
