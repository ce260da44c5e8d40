-- Written by xprint.py, a program of this repo that leads the kit's print.py: Lean checks it.
import Derived.Test.YtookjdhfpbmjkaaX0
import Derived.Test.YtookjdhfpbmjkaaX2
import Derived.Test.YtookjdhfpbmjkaaX7
import Derived.Test.YtookjdhfpbmjkaaX14
namespace Go.Proofs.Ytookjdhfpbmjkaa.X
open Go.RowKit Go.Proofs.YtookjdhfpbmjkaaW.PrintWords Go.Proofs.YtookjdhfpbmjkaaW.PrintLast Go.Proofs.YtookjdhfpbmjkaaW.PrintMore
attribute [local go_sem] max2_int min2_int max_two min_two max_three min_three max_four min_four   -- for this text's walks alone
set_option linter.unusedVariables false
set_option linter.unusedSimpArgs false

/-! ### stream_Decode: function 10 -/
def stream_Decode.f (k : Nat) (a0 : ByteArray) : Option ((List (S25)) × Int) := (stream_read.f k a0).bind fun bt254 => (if bt254.2.2 = 0 then (if bt254.2.1.toList = ([] : List UInt8) then ((stream_primitives.f k bt254.1).bind fun t259 => (if t259 > 1024 then (some (([] : List (S25)), 3)) else (some (bt254.1, 0)))) else (some (([] : List (S25)), 4))) else (some (([] : List (S25)), bt254.2.2)))
theorem stream_Decode.mono : ∀ a0 k, LeO (stream_Decode.f k a0) (stream_Decode.f (k + 1) a0) := by
  intro a0 k
  unfold stream_Decode.f
  repeat' first
      | (with_reducible exact stream_primitives.mono _ _)
      | (with_reducible exact stream_read.mono _ _)
      | (with_reducible exact LeO.refl _)
      | (with_reducible exact LeO.none _)
      | (with_reducible refine LeO.ite ?_ ?_)
      | (with_reducible refine LeO.bind ?_ (fun _ => ?_))
      | exact stream_primitives.mono _ _
      | exact stream_read.mono _ _
      | exact LeO.none _
      | refine LeO.ite ?_ ?_
      | refine LeO.bind ?_ (fun _ => ?_)
set_option maxHeartbeats 8000000 in
set_option maxRecDepth 100000 in
theorem stream_Decode.calls (k : Nat) (a0 : ByteArray) (r1 : List (S25)) (r2 : Int) (w : World) (h : stream_Decode.f k a0 = some (r1, r2)) :
    Calls Try.prog 10 #[.string a0] w fun e w' => ∃ v0_ : Value, e = .returned (.tuple #[v0_, .int .i64 r2]) ∧ Kd.S k25 25 w' w.heap.size (fun _ => True) v0_ r1 ∧ Below w.heap.size w w' := by
 have HB := Aside0.mk (Below.refl w.heap.size w)
 have H : ((stream_read.f k a0).bind fun bt254 => (if bt254.2.2 = 0 then (if bt254.2.1.toList = ([] : List UInt8) then ((stream_primitives.f k bt254.1).bind fun t259 => (if t259 > 1024 then (some (([] : List (S25)), 3)) else (some (bt254.1, 0)))) else (some (([] : List (S25)), 4))) else (some (([] : List (S25)), bt254.2.2)))) = some (r1, r2) := h
 clear h
 obtain ⟨⟨t254, t255, t256⟩, A2, H⟩ := bindS H
 try dsimp only at H
 by_cases c3 : t256 = 0
 ·rw [if_pos c3] at H
  have c3b0 : (t256 == 0) = true := beq_iff_eq.mpr c3
  have c3b1 : (t256 != 0) = false := bne_eq_false_iff_eq.mpr c3
  clear c3
  by_cases c4 : t255.toList = ([] : List UInt8)
  ·rw [if_pos c4] at H
   have c4b0 : (t255.toList == ([] : List UInt8)) = true := beq_iff_eq.mpr c4
   have c4b1 : (t255.toList != ([] : List UInt8)) = false := bne_eq_false_iff_eq.mpr c4
   clear c4
   obtain ⟨t259, A5, H⟩ := bindS H
   by_cases c6 : t259 > 1024
   ·rw [if_pos c6] at H
    have c6b0 := decide_eq_true c6
    clear c6
    simp only [Option.some.injEq, Prod.mk.injEq] at H
    obtain ⟨rfl, rfl⟩ := H
    go_enter Try.func10, Try.ntmps10
    go_wp2_with (first | ((with_reducible refine gate_callee (f := 37) rfl ?_); refine goesL_ (some 9) rfl rfl Try.func37 (by kernel_rfl) rfl #[.string a0] rfl eq_ ?_; (with_reducible refine (stream_read.calls k a0 t254 t255 t256 _ A2.out).mono ?_); rintro e w7 ⟨v257, rfl, ho0, hb⟩; refine ⟨_, rfl, ?_⟩; have HO258 := Aside0.mk (Kd.S_lower ho0 (below_size (hq HB.out))); replace HB := Aside0.mk (below_step (hq HB.out) hb); (try clear hb); (try clear ho0); obtain ⟨Ao8, co8, eo8⟩ := Kd.S_slice HO258.out; subst eo8) | ((with_reducible refine gate_callee (f := 28) rfl ?_); refine goesL_ (some 22) rfl rfl Try.func28 (by kernel_rfl) rfl #[.slice Ao8 t254.length co8] rfl eq_ ?_; (with_reducible refine (stream_primitives.calls k _ _ t254 t259 _ ?side1 ?side2 A5.out).mono ?_); (case side1 => repeat (first | exact (Kd.S_reads' HO258.out).2.2 | (with_reducible refine Kd.C_alloc ?_ _) | (with_reducible refine Kd.C_drewN ?_ _) | (with_reducible refine Kd.C_drew ?_))); (case side2 => exact (Kd.S_reads' HO258.out).2.1); rintro e w9 ⟨rfl, hb⟩; refine ⟨_, rfl, ?_⟩; replace HO258 := Aside0.mk (Kd.S_below (qS HO258.out) hb); replace HB := Aside0.mk (below_step (hq HB.out) hb); (try clear hb)))
    go_ret2
    exact ⟨_, rq_, by first | exact Kd.S_nil _ _ _ _ _ | exact Kd.N_nil _ _ _ _ _ | exact Kd.V_nil _ _ _ _ _ | exact Kd.Q_nil _ _ _ _ _ | exact Kd.R_nil _ _ _ _ _, hq HB.out⟩
   ·rw [if_neg c6] at H
    have c6b0 := decide_eq_false c6
    clear c6
    simp only [Option.some.injEq, Prod.mk.injEq] at H
    obtain ⟨rfl, rfl⟩ := H
    go_enter Try.func10, Try.ntmps10
    go_wp2_with (first | ((with_reducible refine gate_callee (f := 37) rfl ?_); refine goesL_ (some 9) rfl rfl Try.func37 (by kernel_rfl) rfl #[.string a0] rfl eq_ ?_; (with_reducible refine (stream_read.calls k a0 t254 t255 t256 _ A2.out).mono ?_); rintro e w10 ⟨v257, rfl, ho0, hb⟩; refine ⟨_, rfl, ?_⟩; have HO258 := Aside0.mk (Kd.S_lower ho0 (below_size (hq HB.out))); replace HB := Aside0.mk (below_step (hq HB.out) hb); (try clear hb); (try clear ho0); obtain ⟨Ao11, co11, eo11⟩ := Kd.S_slice HO258.out; subst eo11) | ((with_reducible refine gate_callee (f := 28) rfl ?_); refine goesL_ (some 22) rfl rfl Try.func28 (by kernel_rfl) rfl #[.slice Ao11 t254.length co11] rfl eq_ ?_; (with_reducible refine (stream_primitives.calls k _ _ t254 t259 _ ?side1 ?side2 A5.out).mono ?_); (case side1 => repeat (first | exact (Kd.S_reads' HO258.out).2.2 | (with_reducible refine Kd.C_alloc ?_ _) | (with_reducible refine Kd.C_drewN ?_ _) | (with_reducible refine Kd.C_drew ?_))); (case side2 => exact (Kd.S_reads' HO258.out).2.1); rintro e w12 ⟨rfl, hb⟩; refine ⟨_, rfl, ?_⟩; replace HO258 := Aside0.mk (Kd.S_below (qS HO258.out) hb); replace HB := Aside0.mk (below_step (hq HB.out) hb); (try clear hb)))
    go_ret2
    exact ⟨_, rq_, by (with_reducible repeat (first | apply Kd.S_alloc | apply Kd.S_drewN | apply Kd.S_drew)); exact HO258.out, hq HB.out⟩
  ·rw [if_neg c4] at H
   have c4b0 : (t255.toList == ([] : List UInt8)) = false := beq_eq_false_iff_ne.mpr c4
   have c4b1 : (t255.toList != ([] : List UInt8)) = true := bne_iff_ne.mpr c4
   simp only [Option.some.injEq, Prod.mk.injEq] at H
   obtain ⟨rfl, rfl⟩ := H
   go_enter Try.func10, Try.ntmps10
   go_wp2_with (first | ((with_reducible refine gate_callee (f := 37) rfl ?_); refine goesL_ (some 9) rfl rfl Try.func37 (by kernel_rfl) rfl #[.string a0] rfl eq_ ?_; (with_reducible refine (stream_read.calls k a0 t254 t255 t256 _ A2.out).mono ?_); rintro e w13 ⟨v257, rfl, ho0, hb⟩; refine ⟨_, rfl, ?_⟩; have HO258 := Aside0.mk (Kd.S_lower ho0 (below_size (hq HB.out))); replace HB := Aside0.mk (below_step (hq HB.out) hb); (try clear hb); (try clear ho0)))
   go_ret2
   exact ⟨_, rq_, by first | exact Kd.S_nil _ _ _ _ _ | exact Kd.N_nil _ _ _ _ _ | exact Kd.V_nil _ _ _ _ _ | exact Kd.Q_nil _ _ _ _ _ | exact Kd.R_nil _ _ _ _ _, hq HB.out⟩
 ·rw [if_neg c3] at H
  have c3b0 : (t256 == 0) = false := beq_eq_false_iff_ne.mpr c3
  have c3b1 : (t256 != 0) = true := bne_iff_ne.mpr c3
  simp only [Option.some.injEq, Prod.mk.injEq] at H
  obtain ⟨rfl, rfl⟩ := H
  go_enter Try.func10, Try.ntmps10
  go_wp2_with (first | ((with_reducible refine gate_callee (f := 37) rfl ?_); refine goesL_ (some 9) rfl rfl Try.func37 (by kernel_rfl) rfl #[.string a0] rfl eq_ ?_; (with_reducible refine (stream_read.calls k a0 t254 t255 t256 _ A2.out).mono ?_); rintro e w14 ⟨v257, rfl, ho0, hb⟩; refine ⟨_, rfl, ?_⟩; have HO258 := Aside0.mk (Kd.S_lower ho0 (below_size (hq HB.out))); replace HB := Aside0.mk (below_step (hq HB.out) hb); (try clear hb); (try clear ho0)))
  go_ret2
  exact ⟨_, rq_, by first | exact Kd.S_nil _ _ _ _ _ | exact Kd.N_nil _ _ _ _ _ | exact Kd.V_nil _ _ _ _ _ | exact Kd.Q_nil _ _ _ _ _ | exact Kd.R_nil _ _ _ _ _, hq HB.out⟩

/-! ### keyeventref01_Value: function 71 -/
def keyeventref01_Value.l0 : Nat → Int → Int → Option (Int × Bool)
  | 0, _, _ => none
  | k + 1, x0, x5 => if x5 < 64 then (if 0 ≤ x5 then (if (bt (⟨#[65,66,67,68,69,70,71,72,73,74,75,76,77,78,79,80,81,82,83,84,85,86,87,88,89,90,97,98,99,100,101,102,103,104,105,106,107,108,109,110,111,112,113,114,115,116,117,118,119,120,121,122,48,49,50,51,52,53,54,55,56,57,45,95]⟩ : ByteArray) x5) = x0 then (some (x5, true)) else (keyeventref01_Value.l0 k x0 (wrap64 (x5 + 1)))) else (none)) else (some (0, false))
def keyeventref01_Value.f (k : Nat) (a0 : Int) : Option (Int × Bool) := keyeventref01_Value.l0 k a0 0
theorem keyeventref01_Value.mono_l : ∀ k, (∀ y0 y1, LeO (keyeventref01_Value.l0 k y0 y1) (keyeventref01_Value.l0 (k + 1) y0 y1))
  | 0 => fun _ _ r h => by simp [keyeventref01_Value.l0] at h
  | k + 1 => by
    have ih0 := keyeventref01_Value.mono_l k
    · intro y0 y1
      unfold keyeventref01_Value.l0
      repeat' first
      | (with_reducible exact ih0 _ _)
      | (with_reducible exact LeO.refl _)
      | (with_reducible exact LeO.none _)
      | (with_reducible refine LeO.ite ?_ ?_)
      | (with_reducible refine LeO.bind ?_ (fun _ => ?_))
      | exact ih0 _ _
      | exact LeO.none _
      | refine LeO.ite ?_ ?_
      | refine LeO.bind ?_ (fun _ => ?_)
theorem keyeventref01_Value.mono : ∀ a0 k, LeO (keyeventref01_Value.f k a0) (keyeventref01_Value.f (k + 1) a0) := by
  intro a0 k
  have ih0 := keyeventref01_Value.mono_l k
  unfold keyeventref01_Value.f
  repeat' first
      | (with_reducible exact ih0 _ _)
      | (with_reducible exact LeO.refl _)
      | (with_reducible exact LeO.none _)
      | (with_reducible refine LeO.ite ?_ ?_)
      | (with_reducible refine LeO.bind ?_ (fun _ => ?_))
      | exact ih0 _ _
      | exact LeO.none _
      | refine LeO.ite ?_ ?_
      | refine LeO.bind ?_ (fun _ => ?_)
set_option maxHeartbeats 8000000 in
set_option maxRecDepth 100000 in
theorem keyeventref01_Value.calls (k : Nat) (a0 : Int) (r1 : Int) (r2 : Bool) (w : World) (h : keyeventref01_Value.f k a0 = some (r1, r2)) :
    Calls Try.prog 71 #[.int .u8 a0] w fun e w' => e = .returned (.tuple #[.int .i64 r1, .bool r2]) ∧ Drawn0 w w' := by
 have H : (keyeventref01_Value.l0 k a0 0) = some (r1, r2) := h
 clear h
 have H' := Aside0.mk H
 clear H
 go_enter Try.func71, Try.ntmps71
 go_wp2
 go_loopg [5] k (fun kq v5 w' => ∃ (x5_1 : Int), v5 = .int .i64 x5_1 ∧ Aside0 (keyeventref01_Value.l0 kq a0 x5_1 = some (r1, r2)) ∧ Aside0 (kq ≤ k) ∧ Drawn0 w w')
 case atStart => exact ⟨(0), dq, H', ⟨Nat.le_refl _⟩, by repeat (first | exact Drawn0.refl _ | apply Drawn0.step)⟩
 case round =>
  clear H'
  obtain ⟨x5_1, rfl, HA, HK1, ⟨m1, rfl⟩⟩ := hrel
  cases gk with
  | zero => exact absurd HA.out (by simp [keyeventref01_Value.l0])
  | succ k1 =>
   have H := HA.out
   clear HA
   simp only [keyeventref01_Value.l0] at H
   by_cases c2 : x5_1 < 64
   ·rw [if_pos c2] at H
    have c2b0 := decide_eq_true c2
    clear c2
    by_cases c3 : 0 ≤ x5_1
    ·rw [if_pos c3] at H
     have c3b0 := decide_eq_true c3
     clear c3
     by_cases c5 : (bt (⟨#[65,66,67,68,69,70,71,72,73,74,75,76,77,78,79,80,81,82,83,84,85,86,87,88,89,90,97,98,99,100,101,102,103,104,105,106,107,108,109,110,111,112,113,114,115,116,117,118,119,120,121,122,48,49,50,51,52,53,54,55,56,57,45,95]⟩ : ByteArray) x5_1) = a0
     ·rw [if_pos c5] at H
      have c5b0 : ((bt (⟨#[65,66,67,68,69,70,71,72,73,74,75,76,77,78,79,80,81,82,83,84,85,86,87,88,89,90,97,98,99,100,101,102,103,104,105,106,107,108,109,110,111,112,113,114,115,116,117,118,119,120,121,122,48,49,50,51,52,53,54,55,56,57,45,95]⟩ : ByteArray) x5_1) == a0) = true := beq_iff_eq.mpr c5
      have c5b1 : ((bt (⟨#[65,66,67,68,69,70,71,72,73,74,75,76,77,78,79,80,81,82,83,84,85,86,87,88,89,90,97,98,99,100,101,102,103,104,105,106,107,108,109,110,111,112,113,114,115,116,117,118,119,120,121,122,48,49,50,51,52,53,54,55,56,57,45,95]⟩ : ByteArray) x5_1) != a0) = false := bne_eq_false_iff_eq.mpr c5
      clear c5
      simp only [Option.some.injEq, Prod.mk.injEq] at H
      obtain ⟨rfl, rfl⟩ := H
      have p4 : 0 ≤ (x5_1 : Int) := of_decide_eq_true aq
      have q4 : x5_1 < (64 : Int) := of_decide_eq_true aq
      have hx4 := bt_at (⟨#[65,66,67,68,69,70,71,72,73,74,75,76,77,78,79,80,81,82,83,84,85,86,87,88,89,90,97,98,99,100,101,102,103,104,105,106,107,108,109,110,111,112,113,114,115,116,117,118,119,120,121,122,48,49,50,51,52,53,54,55,56,57,45,95]⟩ : ByteArray) x5_1
      replace p4 := eq_true p4
      replace q4 := eq_true q4
      go_wp2
      go_ret2
      exact ⟨by first | rfl | (simp; done) | (simp [*]; done), by repeat (first | exact Drawn0.refl _ | apply Drawn0.step)⟩
     ·rw [if_neg c5] at H
      have c5b0 : ((bt (⟨#[65,66,67,68,69,70,71,72,73,74,75,76,77,78,79,80,81,82,83,84,85,86,87,88,89,90,97,98,99,100,101,102,103,104,105,106,107,108,109,110,111,112,113,114,115,116,117,118,119,120,121,122,48,49,50,51,52,53,54,55,56,57,45,95]⟩ : ByteArray) x5_1) == a0) = false := beq_eq_false_iff_ne.mpr c5
      have c5b1 : ((bt (⟨#[65,66,67,68,69,70,71,72,73,74,75,76,77,78,79,80,81,82,83,84,85,86,87,88,89,90,97,98,99,100,101,102,103,104,105,106,107,108,109,110,111,112,113,114,115,116,117,118,119,120,121,122,48,49,50,51,52,53,54,55,56,57,45,95]⟩ : ByteArray) x5_1) != a0) = true := bne_iff_ne.mpr c5
      have H' := Aside0.mk H
      clear H
      have p4 : 0 ≤ (x5_1 : Int) := of_decide_eq_true aq
      have q4 : x5_1 < (64 : Int) := of_decide_eq_true aq
      have hx4 := bt_at (⟨#[65,66,67,68,69,70,71,72,73,74,75,76,77,78,79,80,81,82,83,84,85,86,87,88,89,90,97,98,99,100,101,102,103,104,105,106,107,108,109,110,111,112,113,114,115,116,117,118,119,120,121,122,48,49,50,51,52,53,54,55,56,57,45,95]⟩ : ByteArray) x5_1
      replace p4 := eq_true p4
      replace q4 := eq_true q4
      go_wp2
      go_roundg k1
      case measure => have := HK1.out; omega
      case rel => exact ⟨(wrap64 (x5_1 + 1)), dq, H', ⟨by have := HK1.out; omega⟩, by repeat (first | exact Drawn0.refl _ | apply Drawn0.step)⟩
    ·rw [if_neg c3] at H
     exact absurd H (by simp)
   ·rw [if_neg c2] at H
    have c2b0 := decide_eq_false c2
    clear c2
    simp only [Option.some.injEq, Prod.mk.injEq] at H
    obtain ⟨rfl, rfl⟩ := H
    go_wp2
    go_ret2
    exact ⟨by first | rfl | (simp; done) | (simp [*]; done), by repeat (first | exact Drawn0.refl _ | apply Drawn0.step)⟩

/-! ### keyeventref01_Parse: function 60 -/
mutual
def keyeventref01_Parse.j0 : Nat → ByteArray → Bool → Option (Int × Int)
  | 0, _, _ => none
  | k + 1, x0, x15 => if x15 = true then (some (0, 8)) else (keyeventref01_Parse.l0 k x0 0 (x0.size : Int) 0)
def keyeventref01_Parse.l0 : Nat → ByteArray → Int → Int → Int → Option (Int × Int)
  | 0, _, _, _, _ => none
  | k + 1, x0, x4, x17, x18 => if x18 < x17 then (if 0 ≤ x18 then (if x18 < (x0.size : Int) then ((keyeventref01_Value.f k (bt x0 x18)).bind fun bt260 => (if bt260.2 = true then (keyeventref01_Parse.l0 k x0 (Go.bits .or .i64 (wrap64 (x4 * 64)) bt260.1) x17 (wrap64 (x18 + 1))) else (some (0, 4)))) else (none)) else (none)) else (some (x4, 0))
end
def keyeventref01_Parse.f (k : Nat) (a0 : ByteArray) : Option (Int × Int) := if (a0.size : Int) < 1 then (keyeventref01_Parse.j0 k a0 true) else (keyeventref01_Parse.j0 k a0 (decide ((a0.size : Int) > 8)))
theorem keyeventref01_Parse.mono_l : ∀ k, (∀ y0 y1, LeO (keyeventref01_Parse.j0 k y0 y1) (keyeventref01_Parse.j0 (k + 1) y0 y1)) ∧ (∀ y0 y1 y2 y3, LeO (keyeventref01_Parse.l0 k y0 y1 y2 y3) (keyeventref01_Parse.l0 (k + 1) y0 y1 y2 y3))
  | 0 => ⟨fun _ _ r h => by simp [keyeventref01_Parse.j0] at h, fun _ _ _ _ r h => by simp [keyeventref01_Parse.l0] at h⟩
  | k + 1 => by
    obtain ⟨ih0, ih1⟩ := keyeventref01_Parse.mono_l k
    refine ⟨?_, ?_⟩
    · intro y0 y1
      unfold keyeventref01_Parse.j0
      repeat' first
      | (with_reducible exact ih0 _ _)
      | (with_reducible exact ih1 _ _ _ _)
      | (with_reducible exact keyeventref01_Value.mono _ _)
      | (with_reducible exact LeO.refl _)
      | (with_reducible exact LeO.none _)
      | (with_reducible refine LeO.ite ?_ ?_)
      | (with_reducible refine LeO.bind ?_ (fun _ => ?_))
      | exact ih0 _ _
      | exact ih1 _ _ _ _
      | exact keyeventref01_Value.mono _ _
      | exact LeO.none _
      | refine LeO.ite ?_ ?_
      | refine LeO.bind ?_ (fun _ => ?_)
    · intro y0 y1 y2 y3
      unfold keyeventref01_Parse.l0
      repeat' first
      | (with_reducible exact ih0 _ _)
      | (with_reducible exact ih1 _ _ _ _)
      | (with_reducible exact keyeventref01_Value.mono _ _)
      | (with_reducible exact LeO.refl _)
      | (with_reducible exact LeO.none _)
      | (with_reducible refine LeO.ite ?_ ?_)
      | (with_reducible refine LeO.bind ?_ (fun _ => ?_))
      | exact ih0 _ _
      | exact ih1 _ _ _ _
      | exact keyeventref01_Value.mono _ _
      | exact LeO.none _
      | refine LeO.ite ?_ ?_
      | refine LeO.bind ?_ (fun _ => ?_)
theorem keyeventref01_Parse.mono : ∀ a0 k, LeO (keyeventref01_Parse.f k a0) (keyeventref01_Parse.f (k + 1) a0) := by
  intro a0 k
  obtain ⟨ih0, ih1⟩ := keyeventref01_Parse.mono_l k
  unfold keyeventref01_Parse.f
  repeat' first
      | (with_reducible exact ih0 _ _)
      | (with_reducible exact ih1 _ _ _ _)
      | (with_reducible exact keyeventref01_Value.mono _ _)
      | (with_reducible exact LeO.refl _)
      | (with_reducible exact LeO.none _)
      | (with_reducible refine LeO.ite ?_ ?_)
      | (with_reducible refine LeO.bind ?_ (fun _ => ?_))
      | exact ih0 _ _
      | exact ih1 _ _ _ _
      | exact keyeventref01_Value.mono _ _
      | exact LeO.none _
      | refine LeO.ite ?_ ?_
      | refine LeO.bind ?_ (fun _ => ?_)
set_option maxHeartbeats 8000000 in
set_option maxRecDepth 100000 in
theorem keyeventref01_Parse.calls (k : Nat) (a0 : ByteArray) (r1 : Int) (r2 : Int) (w : World) (h : keyeventref01_Parse.f k a0 = some (r1, r2)) :
    Calls Try.prog 60 #[.string a0] w fun e w' => e = .returned (.tuple #[.int .i64 r1, .int .i64 r2]) ∧ Drawn0 w w' := by
 have H : (if (a0.size : Int) < 1 then (keyeventref01_Parse.j0 k a0 true) else (keyeventref01_Parse.j0 k a0 (decide ((a0.size : Int) > 8)))) = some (r1, r2) := h
 clear h
 have HC2 := Aside0.mk H
 clear H
 go_enter Try.func60, Try.ntmps60
 go_upto_region 1 with (fail)
 go_cut [15] (fun v15 wc => ∃ (kq : Nat) (x15_1 : Bool), v15 = .bool x15_1 ∧ Aside0 (keyeventref01_Parse.j0 kq a0 x15_1 = some (r1, r2)) ∧ Aside0 (kq ≤ k) ∧ Drawn0 w wc)
 case first =>
  have H := HC2.out
  clear HC2
  by_cases c3 : (a0.size : Int) < 1
  ·rw [if_pos c3] at H
   have c3b0 := decide_eq_true c3
   have c3b1 : decide (a0.size < 1) = true := decide_eq_true (by omega)
   clear c3
   (first | rw [c3b0] | (simp only [i64_w, i32_w]; rw [c3b0]) | skip)
   have H' := Aside0.mk H
   clear H
   go_wp2
   go_meet
   case rel => exact ⟨_, (true), dq, H', ⟨by first | omega | exact Nat.le_refl _⟩, by repeat (first | exact Drawn0.refl _ | apply Drawn0.step)⟩
  ·rw [if_neg c3] at H
   have c3b0 := decide_eq_false c3
   have c3b1 : decide (a0.size < 1) = false := decide_eq_false (by omega)
   clear c3
   (first | rw [c3b0] | (simp only [i64_w, i32_w]; rw [c3b0]) | skip)
   have H' := Aside0.mk H
   clear H
   go_wp2
   go_meet
   case rel => exact ⟨_, (decide ((a0.size : Int) > 8)), dq, H', ⟨by first | omega | exact Nat.le_refl _⟩, by repeat (first | exact Drawn0.refl _ | apply Drawn0.step)⟩
 case rest =>
  clear HC2
  try clear p2
  try clear c3
  try clear c3b0
  try clear c3b1
  obtain ⟨kq, x15_1, rfl, HA, HJ1, ⟨mc1, rfl⟩⟩ := hcut
  cases kq with
  | zero => exact absurd HA.out (by simp [keyeventref01_Parse.j0])
  | succ kj1 =>
   have H := HA.out
   clear HA
   simp only [keyeventref01_Parse.j0] at H
   by_cases c4 : x15_1 = true
   ·subst c4
    rw [if_pos rfl] at H
    simp only [Option.some.injEq, Prod.mk.injEq] at H
    obtain ⟨rfl, rfl⟩ := H
    go_wp2
    go_ret2
    exact ⟨by first | rfl | (simp; done) | (simp [*]; done), by repeat (first | exact Drawn0.refl _ | apply Drawn0.step)⟩
   ·replace c4 := Bool.eq_false_iff.mpr c4
    subst c4
    rw [if_neg (show ¬ (false = true) by decide)] at H
    have H' := Aside0.mk H
    clear H
    go_wp2
    go_loopg [4,18] kj1 (fun kq v4 v18 w' => ∃ (x4_2 : Int) (x18_2 : Int), v4 = .int .i64 x4_2 ∧ v18 = .int .i64 x18_2 ∧ Aside0 (keyeventref01_Parse.l0 kq a0 x4_2 (a0.size : Int) x18_2 = some (r1, r2)) ∧ Aside0 (kq ≤ kj1) ∧ Drawn0 w w')
    case atStart => exact ⟨(0), (0), dq, dq, H', ⟨Nat.le_refl _⟩, by repeat (first | exact Drawn0.refl _ | apply Drawn0.step)⟩
    case round =>
     clear H'
     try clear c1
     try clear p2
     try clear c3
     try clear c3b0
     try clear c3b1
     try clear c4
     try clear p2
     obtain ⟨x4_2, x18_2, rfl, rfl, HA, HK2, ⟨m2, rfl⟩⟩ := hrel
     cases gk with
     | zero => exact absurd HA.out (by simp [keyeventref01_Parse.l0])
     | succ k2 =>
      have H := HA.out
      clear HA
      simp only [keyeventref01_Parse.l0] at H
      by_cases c5 : x18_2 < (a0.size : Int)
      ·rw [if_pos c5] at H
       have c5b0 := decide_eq_true c5
       clear c5
       by_cases c6 : 0 ≤ x18_2
       ·rw [if_pos c6] at H
        have c6b0 := decide_eq_true c6
        clear c6
        by_cases c7 : x18_2 < (a0.size : Int)
        ·rw [if_pos c7] at H
         have c7b0 := decide_eq_true c7
         clear c7
         obtain ⟨⟨t260, t261⟩, A9, H⟩ := bindS H
         try dsimp only at H
         by_cases c10 : t261 = true
         ·subst c10
          rw [if_pos rfl] at H
          have H' := Aside0.mk H
          clear H
          have p8 : 0 ≤ (x18_2 : Int) := of_decide_eq_true aq
          have q8 : x18_2 < (a0.size : Int) := of_decide_eq_true aq
          have hx8 := bt_at a0 x18_2
          replace p8 := eq_true p8
          replace q8 := eq_true q8
          go_wp2_with (first | ((with_reducible refine gate_callee (f := 71) rfl ?_); refine goesL_ (some 25) rfl rfl Try.func71 (by kernel_rfl) rfl #[.int .u8 (bt a0 x18_2)] rfl eq_ ?_; (with_reducible refine (keyeventref01_Value.calls k2 (bt a0 x18_2) t260 true _ A9.out).mono ?_); rintro e w' ⟨rfl, ⟨nd, rfl⟩⟩; refine ⟨_, rfl, ?_⟩))
          go_roundg k2
          case measure => have := HJ1.out; have := HK2.out; omega
          case rel => exact ⟨(Go.bits .or .i64 (wrap64 (x4_2 * 64)) t260), (wrap64 (x18_2 + 1)), dq, dq, H', ⟨by have := HJ1.out; have := HK2.out; omega⟩, by repeat (first | exact Drawn0.refl _ | apply Drawn0.step)⟩
         ·replace c10 := Bool.eq_false_iff.mpr c10
          subst c10
          rw [if_neg (show ¬ (false = true) by decide)] at H
          simp only [Option.some.injEq, Prod.mk.injEq] at H
          obtain ⟨rfl, rfl⟩ := H
          have p8 : 0 ≤ (x18_2 : Int) := of_decide_eq_true aq
          have q8 : x18_2 < (a0.size : Int) := of_decide_eq_true aq
          have hx8 := bt_at a0 x18_2
          replace p8 := eq_true p8
          replace q8 := eq_true q8
          go_wp2_with (first | ((with_reducible refine gate_callee (f := 71) rfl ?_); refine goesL_ (some 25) rfl rfl Try.func71 (by kernel_rfl) rfl #[.int .u8 (bt a0 x18_2)] rfl eq_ ?_; (with_reducible refine (keyeventref01_Value.calls k2 (bt a0 x18_2) t260 false _ A9.out).mono ?_); rintro e w' ⟨rfl, ⟨nd, rfl⟩⟩; refine ⟨_, rfl, ?_⟩))
          go_ret2
          exact ⟨by first | rfl | (simp; done) | (simp [*]; done), by repeat (first | exact Drawn0.refl _ | apply Drawn0.step)⟩
        ·rw [if_neg c7] at H
         exact absurd H (by simp)
       ·rw [if_neg c6] at H
        exact absurd H (by simp)
      ·rw [if_neg c5] at H
       have c5b0 := decide_eq_false c5
       clear c5
       simp only [Option.some.injEq, Prod.mk.injEq] at H
       obtain ⟨rfl, rfl⟩ := H
       go_wp2
       go_ret2
       exact ⟨by first | rfl | (simp; done) | (simp [*]; done), by repeat (first | exact Drawn0.refl _ | apply Drawn0.step)⟩

/-! ### keyeventref01_Decode: function 63 -/
mutual
def keyeventref01_Decode.l0 : Nat → ByteArray → List Int → Int → Option (ByteArray × Int)
  | 0, _, _, _ => none
  | k + 1, x0, x4, x5 => if x5 < (x0.size : Int) then (keyeventref01_Decode.l1 k x0 x4 x5 0 0) else (some (strOfNums x4, 0))
def keyeventref01_Decode.l1 : Nat → ByteArray → List Int → Int → Int → Int → Option (ByteArray × Int)
  | 0, _, _, _, _, _ => none
  | k + 1, x0, x4, x5, x6, x25 => if x25 < 4 then (if 0 ≤ (wrap64 (x5 + x25)) then (if (wrap64 (x5 + x25)) < (x0.size : Int) then ((keyeventref01_Value.f k (bt x0 (wrap64 (x5 + x25)))).bind fun bt262 => (if bt262.2 = true then (keyeventref01_Decode.l1 k x0 x4 x5 (Go.bits .or .i64 (wrap64 (x6 * 64)) bt262.1) (wrap64 (x25 + 1))) else (some ((⟨#[]⟩ : ByteArray), 4)))) else (none)) else (none)) else ((some (([(x6 / 65536) % 256, (x6 / 256) % 256, (x6) % 256] : List Int) : List Int)).bind fun y264 => (if x4.length + y264.length < 140737488355328 then (keyeventref01_Decode.l0 k x0 (x4 ++ y264) (wrap64 (x5 + 4))) else (none)))
end
def keyeventref01_Decode.f (k : Nat) (a0 : ByteArray) : Option (ByteArray × Int) := if (a0.size : Int) > 131072 then (some ((⟨#[]⟩ : ByteArray), 3)) else (if ((a0.size : Int) % 4) = 0 then (keyeventref01_Decode.l0 k a0 ([] : List Int) 0) else (some ((⟨#[]⟩ : ByteArray), 8)))
theorem keyeventref01_Decode.mono_l : ∀ k, (∀ y0 y1 y2, LeO (keyeventref01_Decode.l0 k y0 y1 y2) (keyeventref01_Decode.l0 (k + 1) y0 y1 y2)) ∧ (∀ y0 y1 y2 y3 y4, LeO (keyeventref01_Decode.l1 k y0 y1 y2 y3 y4) (keyeventref01_Decode.l1 (k + 1) y0 y1 y2 y3 y4))
  | 0 => ⟨fun _ _ _ r h => by simp [keyeventref01_Decode.l0] at h, fun _ _ _ _ _ r h => by simp [keyeventref01_Decode.l1] at h⟩
  | k + 1 => by
    obtain ⟨ih0, ih1⟩ := keyeventref01_Decode.mono_l k
    refine ⟨?_, ?_⟩
    · intro y0 y1 y2
      unfold keyeventref01_Decode.l0
      repeat' first
      | (with_reducible exact ih0 _ _ _)
      | (with_reducible exact ih1 _ _ _ _ _)
      | (with_reducible exact keyeventref01_Value.mono _ _)
      | (with_reducible exact LeO.refl _)
      | (with_reducible exact LeO.none _)
      | (with_reducible refine LeO.ite ?_ ?_)
      | (with_reducible refine LeO.bind ?_ (fun _ => ?_))
      | exact ih0 _ _ _
      | exact ih1 _ _ _ _ _
      | exact keyeventref01_Value.mono _ _
      | exact LeO.none _
      | refine LeO.ite ?_ ?_
      | refine LeO.bind ?_ (fun _ => ?_)
    · intro y0 y1 y2 y3 y4
      unfold keyeventref01_Decode.l1
      repeat' first
      | (with_reducible exact ih0 _ _ _)
      | (with_reducible exact ih1 _ _ _ _ _)
      | (with_reducible exact keyeventref01_Value.mono _ _)
      | (with_reducible exact LeO.refl _)
      | (with_reducible exact LeO.none _)
      | (with_reducible refine LeO.ite ?_ ?_)
      | (with_reducible refine LeO.bind ?_ (fun _ => ?_))
      | exact ih0 _ _ _
      | exact ih1 _ _ _ _ _
      | exact keyeventref01_Value.mono _ _
      | exact LeO.none _
      | refine LeO.ite ?_ ?_
      | refine LeO.bind ?_ (fun _ => ?_)
theorem keyeventref01_Decode.mono : ∀ a0 k, LeO (keyeventref01_Decode.f k a0) (keyeventref01_Decode.f (k + 1) a0) := by
  intro a0 k
  obtain ⟨ih0, ih1⟩ := keyeventref01_Decode.mono_l k
  unfold keyeventref01_Decode.f
  repeat' first
      | (with_reducible exact ih0 _ _ _)
      | (with_reducible exact ih1 _ _ _ _ _)
      | (with_reducible exact keyeventref01_Value.mono _ _)
      | (with_reducible exact LeO.refl _)
      | (with_reducible exact LeO.none _)
      | (with_reducible refine LeO.ite ?_ ?_)
      | (with_reducible refine LeO.bind ?_ (fun _ => ?_))
      | exact ih0 _ _ _
      | exact ih1 _ _ _ _ _
      | exact keyeventref01_Value.mono _ _
      | exact LeO.none _
      | refine LeO.ite ?_ ?_
      | refine LeO.bind ?_ (fun _ => ?_)
set_option maxHeartbeats 8000000 in
set_option maxRecDepth 100000 in
theorem keyeventref01_Decode.calls (k : Nat) (a0 : ByteArray) (r1 : ByteArray) (r2 : Int) (w : World) (h : keyeventref01_Decode.f k a0 = some (r1, r2)) :
    Calls Try.prog 63 #[.string a0] w fun e w' => e = .returned (.tuple #[.string r1, .int .i64 r2]) ∧ Below w.heap.size w w' := by
 have HB := Aside0.mk (Below.refl w.heap.size w)
 have H : (if (a0.size : Int) > 131072 then (some ((⟨#[]⟩ : ByteArray), 3)) else (if ((a0.size : Int) % 4) = 0 then (keyeventref01_Decode.l0 k a0 ([] : List Int) 0) else (some ((⟨#[]⟩ : ByteArray), 8)))) = some (r1, r2) := h
 clear h
 by_cases c2 : (a0.size : Int) > 131072
 ·rw [if_pos c2] at H
  have c2b0 := decide_eq_true c2
  have c2b1 : decide (131072 < a0.size) = true := decide_eq_true (by omega)
  clear c2
  simp only [Option.some.injEq, Prod.mk.injEq] at H
  obtain ⟨rfl, rfl⟩ := H
  go_enter Try.func63, Try.ntmps63
  go_wp2
  go_ret2
  exact ⟨rq_, hq HB.out⟩
 ·rw [if_neg c2] at H
  have c2b0 := decide_eq_false c2
  have c2b1 : decide (131072 < a0.size) = false := decide_eq_false (by omega)
  clear c2
  by_cases c3 : ((a0.size : Int) % 4) = 0
  ·rw [if_pos c3] at H
   have c3b0 : (((a0.size : Int) % 4) == 0) = true := beq_iff_eq.mpr c3
   have c3b1 : (((a0.size : Int) % 4) != 0) = false := bne_eq_false_iff_eq.mpr c3
   clear c3
   have H' := Aside0.mk H
   clear H
   go_enter Try.func63, Try.ntmps63
   go_wp2
   go_loopg [4,5] k (fun kq v4 v5 w' => ∃ (x4_1 : List Int) (x5_1 : Int), v5 = .int .i64 x5_1 ∧ Aside0 (keyeventref01_Decode.l0 kq a0 x4_1 x5_1 = some (r1, r2)) ∧ Aside0 (kq ≤ k) ∧ Aside0 (Kd.R (Kd.int .u8) 5 w' w.heap.size (fun _ => True) v4 x4_1) ∧ Aside0 (Below w.heap.size w w'))
   case atStart => exact ⟨(([] : List Int)), (0), dq, H', ⟨Nat.le_refl _⟩, ⟨by first | exact Kd.R_nil _ _ _ _ _ | exact Kd.N_nil _ _ _ _ _ | exact Kd.V_nil _ _ _ _ _ | exact Kd.Q_nil _ _ _ _ _ | exact Kd.S_nil _ _ _ _ _⟩, ⟨hq HB.out⟩⟩
   case round =>
    clear H'
    try clear c2
    try clear c2b0
    try clear c2b1
    try clear p2
    try clear c3
    try clear c3b0
    try clear c3b1
    obtain ⟨x4_1, x5_1, rfl, HA, HK1, HO_4, HB⟩ := hrel
    cases gk with
    | zero => exact absurd HA.out (by simp [keyeventref01_Decode.l0])
    | succ k1 =>
     have H := HA.out
     clear HA
     simp only [keyeventref01_Decode.l0] at H
     by_cases c4 : x5_1 < (a0.size : Int)
     ·rw [if_pos c4] at H
      have c4b0 := decide_eq_true c4
      clear c4
      have H' := Aside0.mk H
      clear H
      go_wp2
      go_loopg [6,25] k1 (fun kq v6 v25 w' => ∃ (x6_2 : Int) (x25_2 : Int), v6 = .int .i64 x6_2 ∧ v25 = .int .i64 x25_2 ∧ Aside0 (keyeventref01_Decode.l1 kq a0 x4_1 x5_1 x6_2 x25_2 = some (r1, r2)) ∧ Aside0 (kq ≤ k1) ∧ Aside0 (Kd.R (Kd.int .u8) 5 w' w.heap.size (fun _ => True) u4 x4_1) ∧ Aside0 (Below w.heap.size w w'))
      case atStart => exact ⟨(0), (0), dq, dq, H', ⟨Nat.le_refl _⟩, ⟨by (with_reducible repeat (first | apply Kd.R_alloc | apply Kd.R_drewN | apply Kd.R_drew)); exact HO_4.out⟩, ⟨hq HB.out⟩⟩
      case round =>
       clear H'
       try clear c2
       try clear c2b0
       try clear c2b1
       try clear p2
       try clear c3
       try clear c3b0
       try clear c3b1
       try clear c4
       try clear c4b0
       try clear p2
       obtain ⟨x6_2, x25_2, rfl, rfl, HA, HK2, HO_4, HB⟩ := hrel
       cases gk with
       | zero => exact absurd HA.out (by simp [keyeventref01_Decode.l1])
       | succ k2 =>
        have H := HA.out
        clear HA
        simp only [keyeventref01_Decode.l1] at H
        by_cases c5 : x25_2 < 4
        ·rw [if_pos c5] at H
         have c5b0 := decide_eq_true c5
         clear c5
         obtain ⟨ji6, hji6⟩ : ∃ j_ : Int, (wrap64 (x5_1 + x25_2)) = j_ := ⟨_, rfl⟩
         replace H : (if 0 ≤ (ji6) then (if (ji6) < (a0.size : Int) then ((keyeventref01_Value.f k2 (bt a0 (ji6))).bind fun bt262 => (if bt262.2 = true then (keyeventref01_Decode.l1 k2 a0 x4_1 x5_1 (Go.bits .or .i64 (wrap64 (x6_2 * 64)) bt262.1) (wrap64 (x25_2 + 1))) else (some ((⟨#[]⟩ : ByteArray), 4)))) else (none)) else (none)) = some (r1, r2) := by first | (rw [hji6] at H; exact H) | (simp only [hji6] at H ⊢; exact H)
         have hji6w : (IntKind.i64.wrap (x5_1 + x25_2)) = ji6 := (i64_w _).trans hji6
         by_cases c7 : 0 ≤ (ji6)
         ·rw [if_pos c7] at H
          have c7b0 := decide_eq_true c7
          clear c7
          by_cases c8 : (ji6) < (a0.size : Int)
          ·rw [if_pos c8] at H
           have c8b0 := decide_eq_true c8
           clear c8
           obtain ⟨⟨t262, t263⟩, A10, H⟩ := bindS H
           try dsimp only at H
           by_cases c11 : t263 = true
           ·subst c11
            rw [if_pos rfl] at H
            have H' := Aside0.mk H
            clear H
            have p9 : 0 ≤ ((ji6) : Int) := of_decide_eq_true aq
            have q9 : (ji6) < (a0.size : Int) := of_decide_eq_true aq
            have hx9 := bt_at a0 (ji6)
            replace p9 := eq_true p9
            replace q9 := eq_true q9
            go_wp2_with (first | ((with_reducible refine gate_callee (f := 71) rfl ?_); refine goesL_ (some 34) rfl rfl Try.func71 (by kernel_rfl) rfl #[.int .u8 (bt a0 (ji6))] rfl (by (try simp only [List.map_toArray, List.map_cons, List.map_nil]); first | done | (simp only [hji6]; rfl) | rfl | (simp only [List.length_drop, List.length_take]; rfl)) ?_; (with_reducible refine (keyeventref01_Value.calls k2 (bt a0 (ji6)) t262 true _ A10.out).mono ?_); rintro e w' ⟨rfl, ⟨nd, rfl⟩⟩; refine ⟨_, rfl, ?_⟩))
            go_roundg k2
            case measure => have := HK1.out; have := HK2.out; omega
            case rel => exact ⟨(Go.bits .or .i64 (wrap64 (x6_2 * 64)) t262), (wrap64 (x25_2 + 1)), dq, dq, H', ⟨by have := HK1.out; have := HK2.out; omega⟩, ⟨by (with_reducible repeat (first | apply Kd.R_alloc | apply Kd.R_drewN | apply Kd.R_drew)); exact HO_4.out⟩, ⟨hq HB.out⟩⟩
           ·replace c11 := Bool.eq_false_iff.mpr c11
            subst c11
            rw [if_neg (show ¬ (false = true) by decide)] at H
            simp only [Option.some.injEq, Prod.mk.injEq] at H
            obtain ⟨rfl, rfl⟩ := H
            have p9 : 0 ≤ ((ji6) : Int) := of_decide_eq_true aq
            have q9 : (ji6) < (a0.size : Int) := of_decide_eq_true aq
            have hx9 := bt_at a0 (ji6)
            replace p9 := eq_true p9
            replace q9 := eq_true q9
            go_wp2_with (first | ((with_reducible refine gate_callee (f := 71) rfl ?_); refine goesL_ (some 34) rfl rfl Try.func71 (by kernel_rfl) rfl #[.int .u8 (bt a0 (ji6))] rfl (by (try simp only [List.map_toArray, List.map_cons, List.map_nil]); first | done | (simp only [hji6]; rfl) | rfl | (simp only [List.length_drop, List.length_take]; rfl)) ?_; (with_reducible refine (keyeventref01_Value.calls k2 (bt a0 (ji6)) t262 false _ A10.out).mono ?_); rintro e w' ⟨rfl, ⟨nd, rfl⟩⟩; refine ⟨_, rfl, ?_⟩))
            go_ret2
            exact ⟨by first | rfl | (simp [errW_none, errW_some] <;> rfl) | (simp only [← hji6]; first | rfl | (simp [errW_none, errW_some] <;> rfl)) | (simp [*, errW_none, errW_some] <;> rfl), hq HB.out⟩
          ·rw [if_neg c8] at H
           exact absurd H (by simp)
         ·rw [if_neg c7] at H
          exact absurd H (by simp)
        ·rw [if_neg c5] at H
         have c5b0 := decide_eq_false c5
         clear c5
         obtain ⟨y264, hy264⟩ : ∃ y_ : List Int, y_ = (([(x6_2 / 65536) % 256, (x6_2 / 256) % 256, (x6_2) % 256] : List Int)) := ⟨_, rfl⟩
         replace H : (if x4_1.length + y264.length < 140737488355328 then (keyeventref01_Decode.l0 k2 a0 (x4_1 ++ y264) (wrap64 (x5_1 + 4))) else (none)) = some (r1, r2) := by first | (rw [hy264]; with_reducible exact H) | (have H2_ := (Option.bind_some _ _).symm.trans H; rw [hy264]; with_reducible exact H2_) | (have H2_ := (Option.bind_some _ _).symm.trans H; with_reducible exact H2_) | with_reducible exact H | (rw [hy264]; exact H) | exact H
         have Ny264 := Aside0.mk hy264
         clear hy264
         by_cases c12 : x4_1.length + y264.length < 140737488355328
         ·rw [if_pos c12] at H
          have LMc12 := Aside0.mk c12
          clear c12
          obtain ⟨y267, hy267⟩ : ∃ y_ : List Int, y_ = (x4_1 ++ y264) := ⟨_, rfl⟩
          replace H : (keyeventref01_Decode.l0 k2 a0 y267 (wrap64 (x5_1 + 4))) = some (r1, r2) := by first | (rw [hy267]; with_reducible exact H) | (have H2_ := (Option.bind_some _ _).symm.trans H; rw [hy267]; with_reducible exact H2_) | (have H2_ := (Option.bind_some _ _).symm.trans H; with_reducible exact H2_) | with_reducible exact H | (rw [hy267]; exact H) | exact H
          have Ny267 := Aside0.mk hy267
          clear hy267
          have H' := Aside0.mk H
          clear H
          go_wp2_with (first | ((with_reducible refine gate_dst (N := 53) rfl ?_); refine Kd.R_lit (Kd.int .u8) _ 5 ?hg (N := 53) ?hd (xs := ([(x6_2 / 65536) % 256, (x6_2 / 256) % 256, (x6_2) % 256] : List Int)) (inner := [.int .u8 ((x6_2 / 65536) % 256), .int .u8 ((x6_2 / 256) % 256), .int .u8 ((x6_2) % 256)]) (ok := fun _ => True) (okp := fun _ => True) ?hr ?hp (fun _ hk => hk) trivial (Below.refl _ _) (Nat.le_refl _) (by simp) ?_; (case hd => rfl); (case hg => rfl); (case hr => first | (go_simp; done) | (go_simp; rfl)); (case hp => exact (Reps.one (show Kd.M (Kd.int .u8) _ _ _ ((x6_2 / 65536) % 256) [.int .u8 ((x6_2 / 65536) % 256)] from rfl) (Reps.one (show Kd.M (Kd.int .u8) _ _ _ ((x6_2 / 256) % 256) [.int .u8 ((x6_2 / 256) % 256)] from rfl) (Reps.one (show Kd.M (Kd.int .u8) _ _ _ ((x6_2) % 256) [.int .u8 ((x6_2) % 256)] from rfl) (Reps.none _ _))))); intro v265 w13 ho14 hb hg_ hnew_; clear hg_ hnew_; (first | rw [← Ny264.out] at ho14 | (simp only [Int.reduceToNat] at ho14; rw [← Ny264.out] at ho14)); have HO266 := Aside0.mk (Kd.R_lower (Kd.R_new' ho14 (Kd.R_lt (qR HO_4.out))) (below_size (hq HB.out))); replace HO_4 := Aside0.mk (Kd.R_elder' (qR HO_4.out) (Kd.R_base ho14) hb); replace HB := Aside0.mk (below_step (hq HB.out) hb); clear hb ho14; obtain ⟨Ao16, co16, eo16⟩ := Kd.R_slice HO266.out; subst eo16) | ((with_reducible refine gate_builtin (b := .append) (xs := #[.tmp 44, .tmp 53]) rfl ?_); at_builtin; refine Kd.R_append_rows (Kd.int .u8) (w0 := w) w.heap.size rfl (.tmp 44) (.tmp 53) 28 5 (.int .u8 0) 1 rfl Try.underlying28 info5 rfl (by decide) (by omega) u4 x4_1 y264 _ _ _ (fun k_ => some k_ ≠ (.slice Ao16 y264.length co16 : Value).ownBlock) (fun _ => False) rfl rfl ?aO ?aR (fun _ _ h => h) (fun _ h => h.elim) ?aF ?aB ?aS ?aL ?_; (case aR => repeat (first | exact (Kd.R_reads' HO266.out).2.2 | (with_reducible refine Kd.C_alloc ?_ _) | (with_reducible refine Kd.C_drewN ?_ _) | (with_reducible refine Kd.C_drew ?_))); (case aB => exact (hq HB.out)); (case aF => exact (fun k_ hk => Kd.fresh' (Kd.R_lt (qR HO266.out)) k_ hk)); (case aO => exact (by (with_reducible repeat (first | apply Kd.R_alloc | apply Kd.R_drewN | apply Kd.R_drew)); exact Kd.R_mono HO_4.out (fun _ hk => hk.2))); (case aS => exact (below_size (hq HB.out))); (case aL => have := LMc12.out; omega); intro v268 w15 ho hb hg hat; rw [← Ny267.out] at ho; have n0_ := Aside0.mk (Kd.R_after (ok := (fun _ => True)) (qR HO266.out) hg hat); have n1_ := Aside0.mk (hb); have n2_ := Aside0.mk (ho); clear HO266; clear HB; clear HO_4; have HO266 := n0_; have HB := n1_; have HO269 := n2_; clear n0_ n1_ n2_; clear ho hb hg hat))
          go_roundg k2
          case measure => have := HK1.out; have := HK2.out; omega
          case rel => exact ⟨(y267), (wrap64 (x5_1 + 4)), dq, H', ⟨by have := HK1.out; have := HK2.out; omega⟩, ⟨by (with_reducible repeat (first | apply Kd.R_alloc | apply Kd.R_drewN | apply Kd.R_drew)); exact Kd.R_mono HO269.out (fun _ hk => trivial)⟩, ⟨hq HB.out⟩⟩
         ·rw [if_neg c12] at H
          exact absurd H (by simp)
     ·rw [if_neg c4] at H
      have c4b0 := decide_eq_false c4
      clear c4
      simp only [Option.some.injEq, Prod.mk.injEq] at H
      obtain ⟨rfl, rfl⟩ := H
      have hcv17 := own_string (P := Try.prog) Try.underlying28 Try.underlying5 Try.underlying9 (Kd.own_of_R HO_4.out)
      go_wp2
      go_ret2
      exact ⟨rq_, hq HB.out⟩
  ·rw [if_neg c3] at H
   have c3b0 : (((a0.size : Int) % 4) == 0) = false := beq_eq_false_iff_ne.mpr c3
   have c3b1 : (((a0.size : Int) % 4) != 0) = true := bne_iff_ne.mpr c3
   simp only [Option.some.injEq, Prod.mk.injEq] at H
   obtain ⟨rfl, rfl⟩ := H
   go_enter Try.func63, Try.ntmps63
   go_wp2
   go_ret2
   exact ⟨rq_, hq HB.out⟩

/-! ### keyeventref03_Size: function 72 -/
def keyeventref03_Size.f (a0 : Int) : Option (Int) := (keyeventref03_Code.f a0).bind fun bt270 => (if bt270.2 = true then ((keyeventref03_lead.f a0).bind fun t272 => ((keyeventref03_Raw.f a0).bind fun t273 => ((keyeventref03_lead.f a0).bind fun t274 => (some (wrap64 ((wrap64 ((bt270.1.size : Int) + (wrap64 ((wrap64 (Int.tdiv (wrap64 (t272 + t273)) 3)) * 4)))) - t274)))))) else (some 0))
set_option maxHeartbeats 8000000 in
set_option maxRecDepth 100000 in
theorem keyeventref03_Size.calls (a0 : Int) (r : Int) (w : World) (h : keyeventref03_Size.f a0 = some r) :
    Calls Try.prog 72 #[.int .i64 a0] w fun e w' => e = .returned (.int .i64 r) ∧ Below w.heap.size w w' := by
 have HB := Aside0.mk (Below.refl w.heap.size w)
 have H : ((keyeventref03_Code.f a0).bind fun bt270 => (if bt270.2 = true then ((keyeventref03_lead.f a0).bind fun t272 => ((keyeventref03_Raw.f a0).bind fun t273 => ((keyeventref03_lead.f a0).bind fun t274 => (some (wrap64 ((wrap64 ((bt270.1.size : Int) + (wrap64 ((wrap64 (Int.tdiv (wrap64 (t272 + t273)) 3)) * 4)))) - t274)))))) else (some 0))) = some r := h
 clear h
 obtain ⟨⟨t270, t271⟩, A2, H⟩ := bindS H
 try dsimp only at H
 by_cases c3 : t271 = true
 ·subst c3
  rw [if_pos rfl] at H
  obtain ⟨t272, A4, H⟩ := bindS H
  obtain ⟨t273, A5, H⟩ := bindS H
  obtain ⟨t274, A6, H⟩ := bindS H
  obtain rfl := Option.some.inj H
  go_enter Try.func72, Try.ntmps72
  go_wp2_with (first | ((with_reducible refine gate_callee (f := 55) rfl ?_); refine goesL_ (some 7) rfl rfl Try.func55 (by kernel_rfl) rfl #[.int .i64 a0] rfl eq_ ?_; (with_reducible refine (keyeventref03_Code.calls a0 t270 true _ A2.out).mono ?_); rintro e w7 ⟨rfl, hb⟩; refine ⟨_, rfl, ?_⟩; replace HB := Aside0.mk (below_step (hq HB.out) hb); (try clear hb)) | ((with_reducible refine gate_callee (f := 56) rfl ?_); refine goesL_ (some 15) rfl rfl Try.func56 (by kernel_rfl) rfl #[.int .i64 a0] rfl eq_ ?_; (with_reducible refine (keyeventref03_lead.calls a0 t272 _ A4.out).mono ?_); rintro e w8 ⟨rfl, hb⟩; refine ⟨_, rfl, ?_⟩; replace HB := Aside0.mk (below_step (hq HB.out) hb); (try clear hb)) | ((with_reducible refine gate_callee (f := 41) rfl ?_); refine goesL_ (some 17) rfl rfl Try.func41 (by kernel_rfl) rfl #[.int .i64 a0] rfl eq_ ?_; (with_reducible refine (keyeventref03_Raw.calls a0 t273 _ A5.out).mono ?_); rintro e w9 ⟨rfl, hb⟩; refine ⟨_, rfl, ?_⟩; replace HB := Aside0.mk (below_step (hq HB.out) hb); (try clear hb)) | ((with_reducible refine gate_callee (f := 56) rfl ?_); refine goesL_ (some 23) rfl rfl Try.func56 (by kernel_rfl) rfl #[.int .i64 a0] rfl eq_ ?_; (with_reducible refine (keyeventref03_lead.calls a0 t274 _ A6.out).mono ?_); rintro e w10 ⟨rfl, hb⟩; refine ⟨_, rfl, ?_⟩; replace HB := Aside0.mk (below_step (hq HB.out) hb); (try clear hb)))
  go_ret
  exact ⟨rq_, hq HB.out⟩
 ·replace c3 := Bool.eq_false_iff.mpr c3
  subst c3
  rw [if_neg (show ¬ (false = true) by decide)] at H
  obtain rfl := Option.some.inj H
  go_enter Try.func72, Try.ntmps72
  go_wp2_with (first | ((with_reducible refine gate_callee (f := 55) rfl ?_); refine goesL_ (some 7) rfl rfl Try.func55 (by kernel_rfl) rfl #[.int .i64 a0] rfl eq_ ?_; (with_reducible refine (keyeventref03_Code.calls a0 t270 false _ A2.out).mono ?_); rintro e w11 ⟨rfl, hb⟩; refine ⟨_, rfl, ?_⟩; replace HB := Aside0.mk (below_step (hq HB.out) hb); (try clear hb)))
  go_ret
  exact ⟨rq_, hq HB.out⟩

end Go.Proofs.Ytookjdhfpbmjkaa.X
