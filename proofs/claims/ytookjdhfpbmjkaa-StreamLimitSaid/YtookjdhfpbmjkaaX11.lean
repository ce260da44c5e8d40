-- Written by xprint.py, a program of this repo that leads the kit's print.py: Lean checks it.
import Derived.Test.YtookjdhfpbmjkaaX0
namespace Go.Proofs.Ytookjdhfpbmjkaa.X
open Go.RowKit Go.Proofs.YtookjdhfpbmjkaaW.PrintWords Go.Proofs.YtookjdhfpbmjkaaW.PrintLast Go.Proofs.YtookjdhfpbmjkaaW.PrintMore
attribute [local go_sem] max2_int min2_int max_two min_two max_three min_three max_four min_four   -- for this text's walks alone
set_option linter.unusedVariables false
set_option linter.unusedSimpArgs false

-- NOT PRINTED: function 85 (base64_newValues)

-- NOT PRINTED: function 84 (base64_values)

/-! ### base64_Value: function 81 -/
/-- What a byte is worth as a digit. -/
def base64_Value.f (a0 : Int) : Option (Int × Bool) := if 0 ≤ a0 ∧ a0 < 256 then (if b64Num a0 = 0 then some (0, false) else some (b64Num a0 - 1, true)) else none
set_option maxHeartbeats 4000000 in
theorem base64_Value.calls (a0 : Int) (r1 : Int) (r2 : Bool) (w : World) (h : base64_Value.f a0 = some (r1, r2)) :
    Calls Try.prog 81 #[.int .u8 a0] w fun e w' => e = .returned (.tuple #[.int .i64 r1, .bool r2]) ∧ Below w.heap.size w w' := by
  unfold base64_Value.f at h
  by_cases hr : 0 ≤ a0 ∧ a0 < 256
  · rw [if_pos hr] at h
    have hb := b64Num_bd a0
    have hb0 := hb.1
    have hb1 := hb.2
    have hv : (b64Tbl 64)[a0.toNat]? = some (.int .u8 (b64Num a0)) := by rw [b64Tbl_at _ (by omega)]; congr 3; omega
    have hi := fun w => index_agg w (b64Tbl 64) a0 _ hr.1 hr.2 hv
    have hc := base64_values.calls
    obtain ⟨T, hT⟩ : ∃ T, b64Tbl 64 = T := ⟨_, rfl⟩
    rw [hT] at hi
    simp only [hT] at hc
    clear hT hv hb
    have HC := Aside0.mk hc
    clear hc
    obtain ⟨x, hx⟩ : ∃ x, b64Num a0 = x := ⟨_, rfl⟩
    rw [hx] at h hi hb0 hb1
    clear hx hr
    by_cases h0 : x = 0
    · rw [if_pos h0] at h
      simp only [Option.some.injEq, Prod.mk.injEq] at h
      obtain ⟨rfl, rfl⟩ := h
      have b0 : (x == 0) = true := beq_iff_eq.mpr h0
      clear h0
      go_enter Try.func81, Try.ntmps81
      go_wp2_with ((go_at_call 84); refine (HC.out _).mono ?_; rintro e w1 ⟨rfl, hb⟩)
      go_ret2
      exact ⟨rfl, ‹_›⟩
    · rw [if_neg h0] at h
      simp only [Option.some.injEq, Prod.mk.injEq] at h
      obtain ⟨rfl, rfl⟩ := h
      have b0 : (x == 0) = false := beq_eq_false_iff_ne.mpr h0
      clear h0
      go_enter Try.func81, Try.ntmps81
      go_wp2_with fail
      refine (HC.out _).mono ?_
      rintro e w1 ⟨rfl, hb⟩
      go_wp2_with fail
      refine (HC.out _).mono ?_
      rintro e w2 ⟨rfl, hb2⟩
      go_wp2_with fail
      go_ret2
      exact ⟨rfl, hb.trans (hb2.mono hb.size)⟩
  · rw [if_neg hr] at h
    cases h

/-! ### base64_number: function 73 -/
def base64_number.l0 : Nat → ByteArray → Int → Int → Int → Option (Int × Bool)
  | 0, _, _, _, _ => none
  | k + 1, x0, x4, x9, x10 => if x10 < x9 then (if 0 ≤ x10 then (if x10 < (x0.size : Int) then ((base64_Value.f (bt x0 x10)).bind fun bt189 => (if bt189.2 = true then (base64_number.l0 k x0 (Go.bits .or .i64 (wrap64 (x4 * 64)) bt189.1) x9 (wrap64 (x10 + 1))) else (some (0, false)))) else (none)) else (none)) else (some (x4, true))
def base64_number.f (k : Nat) (a0 : ByteArray) : Option (Int × Bool) := base64_number.l0 k a0 0 (a0.size : Int) 0
theorem base64_number.mono_l : ∀ k, (∀ y0 y1 y2 y3, LeO (base64_number.l0 k y0 y1 y2 y3) (base64_number.l0 (k + 1) y0 y1 y2 y3))
  | 0 => fun _ _ _ _ r h => by simp [base64_number.l0] at h
  | k + 1 => by
    have ih0 := base64_number.mono_l k
    · intro y0 y1 y2 y3
      unfold base64_number.l0
      repeat' first
      | (with_reducible exact ih0 _ _ _ _)
      | (with_reducible exact LeO.refl _)
      | (with_reducible exact LeO.none _)
      | (with_reducible refine LeO.ite ?_ ?_)
      | (with_reducible refine LeO.bind ?_ (fun _ => ?_))
      | exact ih0 _ _ _ _
      | exact LeO.none _
      | refine LeO.ite ?_ ?_
      | refine LeO.bind ?_ (fun _ => ?_)
theorem base64_number.mono : ∀ a0 k, LeO (base64_number.f k a0) (base64_number.f (k + 1) a0) := by
  intro a0 k
  have ih0 := base64_number.mono_l k
  unfold base64_number.f
  repeat' first
      | (with_reducible exact ih0 _ _ _ _)
      | (with_reducible exact LeO.refl _)
      | (with_reducible exact LeO.none _)
      | (with_reducible refine LeO.ite ?_ ?_)
      | (with_reducible refine LeO.bind ?_ (fun _ => ?_))
      | exact ih0 _ _ _ _
      | exact LeO.none _
      | refine LeO.ite ?_ ?_
      | refine LeO.bind ?_ (fun _ => ?_)
set_option maxHeartbeats 8000000 in
set_option maxRecDepth 100000 in
theorem base64_number.calls (k : Nat) (a0 : ByteArray) (r1 : Int) (r2 : Bool) (w : World) (h : base64_number.f k a0 = some (r1, r2)) :
    Calls Try.prog 73 #[.string a0] w fun e w' => e = .returned (.tuple #[.int .i64 r1, .bool r2]) ∧ Below w.heap.size w w' := by
 have HB := Aside0.mk (Below.refl w.heap.size w)
 have H : (base64_number.l0 k a0 0 (a0.size : Int) 0) = some (r1, r2) := h
 clear h
 have H' := Aside0.mk H
 clear H
 go_enter Try.func73, Try.ntmps73
 go_wp2
 go_loopg [4,10] k (fun kq v4 v10 w' => ∃ (x4_1 : Int) (x10_1 : Int), v4 = .int .i64 x4_1 ∧ v10 = .int .i64 x10_1 ∧ Aside0 (base64_number.l0 kq a0 x4_1 (a0.size : Int) x10_1 = some (r1, r2)) ∧ Aside0 (kq ≤ k) ∧ Aside0 (Below w.heap.size w w'))
 case atStart => exact ⟨(0), (0), dq, dq, H', ⟨Nat.le_refl _⟩, ⟨hq HB.out⟩⟩
 case round =>
  clear H'
  obtain ⟨x4_1, x10_1, rfl, rfl, HA, HK1, HB⟩ := hrel
  cases gk with
  | zero => exact absurd HA.out (by simp [base64_number.l0])
  | succ k1 =>
   have H := HA.out
   clear HA
   simp only [base64_number.l0] at H
   by_cases c2 : x10_1 < (a0.size : Int)
   ·rw [if_pos c2] at H
    have c2b0 := decide_eq_true c2
    clear c2
    by_cases c3 : 0 ≤ x10_1
    ·rw [if_pos c3] at H
     have c3b0 := decide_eq_true c3
     clear c3
     by_cases c4 : x10_1 < (a0.size : Int)
     ·rw [if_pos c4] at H
      have c4b0 := decide_eq_true c4
      clear c4
      obtain ⟨⟨t189, t190⟩, A6, H⟩ := bindS H
      try dsimp only at H
      by_cases c7 : t190 = true
      ·subst c7
       rw [if_pos rfl] at H
       have H' := Aside0.mk H
       clear H
       have p5 : 0 ≤ (x10_1 : Int) := of_decide_eq_true aq
       have q5 : x10_1 < (a0.size : Int) := of_decide_eq_true aq
       have hx5 := bt_at a0 x10_1
       replace p5 := eq_true p5
       replace q5 := eq_true q5
       go_wp2_with (first | ((with_reducible refine gate_callee (f := 81) rfl ?_); refine goesL_ (some 17) rfl rfl Try.func81 (by kernel_rfl) rfl #[.int .u8 (bt a0 x10_1)] rfl eq_ ?_; (with_reducible refine (base64_Value.calls (bt a0 x10_1) t189 true _ A6.out).mono ?_); rintro e w8 ⟨rfl, hb⟩; refine ⟨_, rfl, ?_⟩; replace HB := Aside0.mk (below_step (hq HB.out) hb); (try clear hb)))
       go_roundg k1
       case measure => have := HK1.out; omega
       case rel => exact ⟨(Go.bits .or .i64 (wrap64 (x4_1 * 64)) t189), (wrap64 (x10_1 + 1)), dq, dq, H', ⟨by have := HK1.out; omega⟩, ⟨hq HB.out⟩⟩
      ·replace c7 := Bool.eq_false_iff.mpr c7
       subst c7
       rw [if_neg (show ¬ (false = true) by decide)] at H
       simp only [Option.some.injEq, Prod.mk.injEq] at H
       obtain ⟨rfl, rfl⟩ := H
       have p5 : 0 ≤ (x10_1 : Int) := of_decide_eq_true aq
       have q5 : x10_1 < (a0.size : Int) := of_decide_eq_true aq
       have hx5 := bt_at a0 x10_1
       replace p5 := eq_true p5
       replace q5 := eq_true q5
       go_wp2_with (first | ((with_reducible refine gate_callee (f := 81) rfl ?_); refine goesL_ (some 17) rfl rfl Try.func81 (by kernel_rfl) rfl #[.int .u8 (bt a0 x10_1)] rfl eq_ ?_; (with_reducible refine (base64_Value.calls (bt a0 x10_1) t189 false _ A6.out).mono ?_); rintro e w9 ⟨rfl, hb⟩; refine ⟨_, rfl, ?_⟩; replace HB := Aside0.mk (below_step (hq HB.out) hb); (try clear hb)))
       go_ret2
       exact ⟨rq_, hq HB.out⟩
     ·rw [if_neg c4] at H
      exact absurd H (by simp)
    ·rw [if_neg c3] at H
     exact absurd H (by simp)
   ·rw [if_neg c2] at H
    have c2b0 := decide_eq_false c2
    clear c2
    simp only [Option.some.injEq, Prod.mk.injEq] at H
    obtain ⟨rfl, rfl⟩ := H
    go_wp2
    go_ret2
    exact ⟨rq_, hq HB.out⟩

/-! ### base64_Parse: function 69 -/
def base64_Parse.j0 : Nat → ByteArray → Bool → Option (Int × Int)
  | 0, _, _ => none
  | k + 1, x0, x13 => if x13 = true then (some (0, 8)) else ((base64_number.f k x0).bind fun bt191 => (if bt191.2 = true then (some (bt191.1, 0)) else (some (0, 4))))
def base64_Parse.f (k : Nat) (a0 : ByteArray) : Option (Int × Int) := if (a0.size : Int) < 1 then (base64_Parse.j0 k a0 true) else (base64_Parse.j0 k a0 (decide ((a0.size : Int) > 8)))
theorem base64_Parse.mono_l : ∀ k, (∀ y0 y1, LeO (base64_Parse.j0 k y0 y1) (base64_Parse.j0 (k + 1) y0 y1))
  | 0 => fun _ _ r h => by simp [base64_Parse.j0] at h
  | k + 1 => by
    have ih0 := base64_Parse.mono_l k
    · intro y0 y1
      unfold base64_Parse.j0
      repeat' first
      | (with_reducible exact ih0 _ _)
      | (with_reducible exact base64_number.mono _ _)
      | (with_reducible exact LeO.refl _)
      | (with_reducible exact LeO.none _)
      | (with_reducible refine LeO.ite ?_ ?_)
      | (with_reducible refine LeO.bind ?_ (fun _ => ?_))
      | exact ih0 _ _
      | exact base64_number.mono _ _
      | exact LeO.none _
      | refine LeO.ite ?_ ?_
      | refine LeO.bind ?_ (fun _ => ?_)
theorem base64_Parse.mono : ∀ a0 k, LeO (base64_Parse.f k a0) (base64_Parse.f (k + 1) a0) := by
  intro a0 k
  have ih0 := base64_Parse.mono_l k
  unfold base64_Parse.f
  repeat' first
      | (with_reducible exact ih0 _ _)
      | (with_reducible exact base64_number.mono _ _)
      | (with_reducible exact LeO.refl _)
      | (with_reducible exact LeO.none _)
      | (with_reducible refine LeO.ite ?_ ?_)
      | (with_reducible refine LeO.bind ?_ (fun _ => ?_))
      | exact ih0 _ _
      | exact base64_number.mono _ _
      | exact LeO.none _
      | refine LeO.ite ?_ ?_
      | refine LeO.bind ?_ (fun _ => ?_)
set_option maxHeartbeats 8000000 in
set_option maxRecDepth 100000 in
theorem base64_Parse.calls (k : Nat) (a0 : ByteArray) (r1 : Int) (r2 : Int) (w : World) (h : base64_Parse.f k a0 = some (r1, r2)) :
    Calls Try.prog 69 #[.string a0] w fun e w' => e = .returned (.tuple #[.int .i64 r1, .int .i64 r2]) ∧ Below w.heap.size w w' := by
 have HB := Aside0.mk (Below.refl w.heap.size w)
 have H : (if (a0.size : Int) < 1 then (base64_Parse.j0 k a0 true) else (base64_Parse.j0 k a0 (decide ((a0.size : Int) > 8)))) = some (r1, r2) := h
 clear h
 have HC2 := Aside0.mk H
 clear H
 go_enter Try.func69, Try.ntmps69
 go_upto_region 1 with (fail)
 go_cut [13] (fun v13 wc => ∃ (kq : Nat) (x13_1 : Bool), v13 = .bool x13_1 ∧ Aside0 (base64_Parse.j0 kq a0 x13_1 = some (r1, r2)) ∧ Aside0 (kq ≤ k) ∧ Aside0 (Below w.heap.size w wc))
 case first =>
  have H := HC2.out
  clear HC2
  by_cases c3 : (a0.size : Int) < 1
  ·rw [if_pos c3] at H
   have c3b0 := decide_eq_true c3
   have c3b1 : decide (a0.size < 1) = true := decide_eq_true (by omega)
   clear c3
   (first | rw [c3b0] | (simp only [i64_w, i32_w]; rw [c3b0]) | skip)
   have H' := Aside0.mk H
   clear H
   go_wp2
   go_meet
   case rel => exact ⟨_, (true), dq, H', ⟨by first | omega | exact Nat.le_refl _⟩, ⟨hq HB.out⟩⟩
  ·rw [if_neg c3] at H
   have c3b0 := decide_eq_false c3
   have c3b1 : decide (a0.size < 1) = false := decide_eq_false (by omega)
   clear c3
   (first | rw [c3b0] | (simp only [i64_w, i32_w]; rw [c3b0]) | skip)
   have H' := Aside0.mk H
   clear H
   go_wp2
   go_meet
   case rel => exact ⟨_, (decide ((a0.size : Int) > 8)), dq, H', ⟨by first | omega | exact Nat.le_refl _⟩, ⟨hq HB.out⟩⟩
 case rest =>
  clear HC2
  try clear p2
  try clear c3
  try clear c3b0
  try clear c3b1
  obtain ⟨kq, x13_1, rfl, HA, HJ1, HB⟩ := hcut
  cases kq with
  | zero => exact absurd HA.out (by simp [base64_Parse.j0])
  | succ kj1 =>
   have H := HA.out
   clear HA
   simp only [base64_Parse.j0] at H
   by_cases c4 : x13_1 = true
   ·subst c4
    rw [if_pos rfl] at H
    simp only [Option.some.injEq, Prod.mk.injEq] at H
    obtain ⟨rfl, rfl⟩ := H
    go_wp2
    go_ret2
    exact ⟨rq_, hq HB.out⟩
   ·replace c4 := Bool.eq_false_iff.mpr c4
    subst c4
    rw [if_neg (show ¬ (false = true) by decide)] at H
    obtain ⟨⟨t191, t192⟩, A5, H⟩ := bindS H
    try dsimp only at H
    by_cases c6 : t192 = true
    ·subst c6
     rw [if_pos rfl] at H
     simp only [Option.some.injEq, Prod.mk.injEq] at H
     obtain ⟨rfl, rfl⟩ := H
     go_wp2_with (first | ((with_reducible refine gate_callee (f := 73) rfl ?_); refine goesL_ (some 16) rfl rfl Try.func73 (by kernel_rfl) rfl #[.string a0] rfl eq_ ?_; (with_reducible refine (base64_number.calls kj1 a0 t191 true _ A5.out).mono ?_); rintro e w7 ⟨rfl, hb⟩; refine ⟨_, rfl, ?_⟩; replace HB := Aside0.mk (below_step (hq HB.out) hb); (try clear hb)))
     go_ret2
     exact ⟨rq_, hq HB.out⟩
    ·replace c6 := Bool.eq_false_iff.mpr c6
     subst c6
     rw [if_neg (show ¬ (false = true) by decide)] at H
     simp only [Option.some.injEq, Prod.mk.injEq] at H
     obtain ⟨rfl, rfl⟩ := H
     go_wp2_with (first | ((with_reducible refine gate_callee (f := 73) rfl ?_); refine goesL_ (some 16) rfl rfl Try.func73 (by kernel_rfl) rfl #[.string a0] rfl eq_ ?_; (with_reducible refine (base64_number.calls kj1 a0 t191 false _ A5.out).mono ?_); rintro e w8 ⟨rfl, hb⟩; refine ⟨_, rfl, ?_⟩; replace HB := Aside0.mk (below_step (hq HB.out) hb); (try clear hb)))
     go_ret2
     exact ⟨rq_, hq HB.out⟩

/-! ### stream_marked: function 58 -/
def stream_marked.f (k : Nat) (a0 : ByteArray) : Option (Int × Int × Bool) :=
  if 4 ≤ a0.size ∧ bt a0 0 = 45 then (base64_Parse.f k (a0.extract 2 4)).bind fun p => some (if p.2 = 0 ∧ numOf (bt a0 1) ≠ 0 then (numOf (bt a0 1), p.1, true) else (0, 0, false)) else some (0, 0, false)
theorem stream_marked.mono : ∀ a0 k, LeO (stream_marked.f k a0) (stream_marked.f (k + 1) a0) := by
  intro a0 k
  unfold stream_marked.f
  repeat' first
      | (with_reducible exact base64_Parse.mono _ _)
      | (with_reducible exact LeO.refl _)
      | (with_reducible refine LeO.ite ?_ ?_)
      | (with_reducible refine LeO.bind ?_ (fun _ => ?_))
set_option maxHeartbeats 4000000 in
set_option maxRecDepth 100000 in
theorem stream_marked.callsA (t : ByteArray) (w : World) (n e : Int) (R : Ending → World → Prop)
    (hpar : 4 ≤ t.size → bt t 0 = 45 → ∀ w, Calls Try.prog 69 #[.string (t.extract 2 4)] w fun e' w' => e' = .returned (.tuple #[.int .i64 n, .int .i64 e]) ∧ Below w.heap.size w w')
    (hyes : 4 ≤ t.size → bt t 0 = 45 → ∀ k, 1 ≤ k → k ≤ 4 → e = 0 → letterOf k = bt t 1 → ∀ w', Below w.heap.size w w' → R (.returned (.tuple #[.int .i64 k, .int .i64 n, .bool true])) w')
    (hno : (4 ≤ t.size → bt t 0 = 45 → ∀ k, 1 ≤ k → k ≤ 4 → ¬ (e = 0 ∧ letterOf k = bt t 1)) → ∀ w', Below w.heap.size w w' → R (.returned (.tuple #[.int .i64 0, .int .i64 0, .bool false])) w') :
    Calls Try.prog 58 #[.string t] w R := by
  have HP := Aside0.mk hpar
  have HY := Aside0.mk hyes
  have HO := Aside0.mk hno
  clear hpar hyes hno
  by_cases hs : 4 ≤ t.size
  · have b0 : decide ((t.size : Int) < 4) = false := decide_eq_false (by omega)
    have i0 : (Instr.index 9 (.string t) (.int .i64 0)).run Try.prog w = .ok (.int .u8 (bt t 0)) w := by
      rw [run_index_string (P := Try.prog) _ 9 t .i64 0 Try.underlying9]
      simp [bt, show 0 < t.size by omega]
    have i1 : ∀ W, (Instr.index 9 (.string t) (.int .i64 1)).run Try.prog W = .ok (.int .u8 (bt t 1)) W := fun W => by
      rw [run_index_string (P := Try.prog) _ 9 t .i64 1 Try.underlying9, dif_pos (show (0 : Int) ≤ 1 ∧ (1 : Int) < t.size by omega)]
      simp [bt, show 1 < t.size by omega]
    have sl : (Instr.slice 9 (.string t) (some (.int .i64 2)) (some (.int .i64 4)) none).run Try.prog w = .ok (.string (t.extract 2 4)) w := by
      exact run_slice_string (P := Try.prog) _ 9 t .i64 .i64 2 4 Try.underlying9 (by omega) (by omega) (by omega)
    by_cases h0 : bt t 0 = 45
    · have b1 : (bt t 0 != 45) = false := bne_eq_false_iff_eq.mpr h0
      go_enter Try.func58, Try.ntmps58
      go_wp2_with fail
      refine (HP.out hs h0 _).mono ?_
      rintro e' w1 ⟨rfl, hb⟩
      have hrg : (Instr.range 77 (.map (some w1.heap.size))).run Try.prog (kindsWorld w1) = .ok (.pointer (some ⟨(kindsWorld w1).heap.size, 0, none⟩)) ((kindsWorld w1).alloc (.mapIter (some w1.heap.size) 4 #[] 4)) :=
        run_range_map _ 77 3 76 _ (kindsMap w1.heap.size) 4 Try.underlying77 (kindsWorld_map w1)
      rw [kindsWorld_size] at hrg
      have HB := Aside0.mk hb
      clear hb i0 sl
      go_wp2_with (go_at_call 42; refine (kinds_any _).mono ?_; rintro e w' ⟨rfl, rfl⟩)
      obtain ⟨W0, hW0⟩ : ∃ W0, W0 = (kindsWorld w1).alloc (.mapIter (some w1.heap.size) 4 #[] 4) := ⟨_, rfl⟩
      have h01 : W0.heap[w1.heap.size]? = some (.map (kindsMap w1.heap.size) 4) := by rw [hW0]; exact alloc_old _ (kindsWorld_map w1)
      have h02 : W0.heap[w1.heap.size + 5]? = some (.mapIter (some w1.heap.size) 4 #[] 4) := by rw [hW0]; exact alloc_at _ _ (kindsWorld_size w1).symm
      have h0B : Below w1.heap.size w1 W0 := by rw [hW0]; exact below_alloc (kindsWorld_below w1) _
      have H01 := Aside0.mk h01
      have H02 := Aside0.mk h02
      have H0B := Aside0.mk h0B
      rw [← hW0]
      clear h01 h02 h0B hW0 hrg
      go_loopw [3] (fun s3 wr => s3 = .int .i64 n ∧ ∃ seen : Array Nat, Aside0 (wr.heap[w1.heap.size]? = some (.map (kindsMap w1.heap.size) 4)) ∧
          Aside0 (wr.heap[w1.heap.size + 5]? = some (.mapIter (some w1.heap.size) 4 seen 4)) ∧ Aside0 (∀ k, 1 ≤ k → k ≤ 4 → (k - 1).toNat ∈ seen → ¬ (e = 0 ∧ letterOf k = bt t 1)) ∧ Aside0 (Below w1.heap.size w1 wr)) (fun _ wr => wr.rangeLeft w1.heap.size (w1.heap.size + 5))
      case atStart => exact ⟨rfl, #[], H01, H02, ⟨fun k _ _ h => by simp at h⟩, H0B⟩
      case round =>
        clear H01 H02 H0B
        obtain ⟨rfl, seen, G1, G2, GS, GB⟩ := hrel
        rcases run_next_at (P := Try.prog) wr 0 (w1.heap.size + 5) w1.heap.size 4 4 seen (kindsMap w1.heap.size) 4 G2.out G1.out (kindsMap_old w1.heap.size) (Nat.le_refl _) with ⟨hl, hnx⟩ | ⟨x, hx, w2, hal, hnx⟩
        · have hall : ∀ k, 1 ≤ k → k ≤ 4 → ¬ (e = 0 ∧ letterOf k = bt t 1) := by
            intro k h1 h2
            refine GS.out k h1 h2 ?_
            obtain ⟨y, hm, hy⟩ := kindsMap_of w1.heap.size k h1 h2
            rcases Classical.em ((k - 1).toNat ∈ seen) with h | h
            · exact h
            · exfalso
              have : y ∈ (leftOf (kindsMap w1.heap.size) seen).toList := by
                simp only [leftOf, Array.toList_filter, List.mem_filter]
                exact ⟨hm, by rw [hy]; simpa using h⟩
              have hl2 : (leftOf (kindsMap w1.heap.size) seen).toList.length = 0 := by simpa using hl
              rw [List.length_eq_zero_iff.1 hl2] at this
              simp at this
          have HALL := Aside0.mk hall
          clear hall hl
          go_wp2_with fail
          exact bodyPost_ret (v := .tuple #[.int .i64 0, .int .i64 0, .bool false]) (by simp [results, Try.results58, go_sem]) rfl (HO.out (fun _ _ => HALL.out) _ (HB.out.trans (Below.mono GB.out HB.out.size)))
        · obtain ⟨k, b, m, hk1, hk2, hk, hv, hbn⟩ := kindsMap_mem w1.heap.size x (by simp only [leftOf, Array.toList_filter, List.mem_filter] at hx; exact hx.1)
          have hns : (k - 1).toNat ∉ seen := by
            simp only [leftOf, Array.toList_filter, List.mem_filter, hbn] at hx
            simpa using hx.2
          rw [hk, hv] at hnx
          have hw2B : Below wr.heap.size wr w2 := by rcases hal with rfl | rfl <;> first | exact Below.refl _ _ | exact (Below.refl _ _).drew
          have hw2h : w2.heap = wr.heap := by rcases hal with rfl | rfl <;> rfl
          have hlt : w1.heap.size + 5 < w2.heap.size := by rw [hw2h]; exact (Array.getElem?_eq_some_iff.1 G2.out).1
          obtain ⟨W1, hW1⟩ : ∃ W1, W1 = Go.ChangeMaps.setBlock w2 (w1.heap.size + 5) (.mapIter (some w1.heap.size) 4 (seen.push x.born) 4) := ⟨_, rfl⟩
          rw [← hW1] at hnx
          have k2 : W1.heap[w1.heap.size + 5]? = some (.mapIter (some w1.heap.size) 4 (seen.push x.born) 4) := by rw [hW1]; simp [Go.ChangeMaps.setBlock, hlt]
          have k1 : W1.heap[w1.heap.size]? = some (.map (kindsMap w1.heap.size) 4) := by rw [hW1, ← G1.out, ← hw2h]; simp only [Go.ChangeMaps.setBlock]; rw [Array.getElem?_setIfInBounds, if_neg (by omega)]
          have kB : Below w1.heap.size w1 W1 := by
            rw [hW1]
            have h1 := GB.out.trans (hw2B.mono (Nat.le_trans (Nat.le_refl _) GB.out.size))
            exact ⟨h1.os, h1.tape, h1.output, by simpa [Go.ChangeMaps.setBlock] using h1.size, fun i hi => by rw [← h1.block i hi]; simp only [Go.ChangeMaps.setBlock]; rw [Array.getElem?_setIfInBounds]; rw [if_neg (by omega)]⟩
          have hen := run_entry_at (P := Try.prog) W1 (w1.heap.size + 5) w1.heap.size 4 seen (kindsMap w1.heap.size) 4 x k2 k1 (by simp only [leftOf, Array.toList_filter, List.mem_filter] at hx; exact hx.1) (kindsMap_nodup w1.heap.size)
          rw [hk, hv] at hen
          unfold kindVal at hnx hen
          rw [hbn] at k2
          have HLT := Aside0.mk (leftOf_push (es := kindsMap w1.heap.size) (seen := seen) (e := x) (by simp only [leftOf, Array.toList_filter, List.mem_filter] at hx; exact hx.1) (by rw [hbn]; exact hns))
          rw [hbn] at HLT
          have K1 := Aside0.mk k1
          have K2 := Aside0.mk k2
          have KB := Aside0.mk kB
          have G2' := Aside0.mk G2.out
          clear hW1 hw2B hw2h hal hx hk hv hbn k1 k2 kB hns hlt
          obtain ⟨c, hc⟩ : ∃ c, letterOf k = c := ⟨_, rfl⟩
          rw [hc] at hnx hen
          have HC := Aside0.mk hc
          clear hc
          have hcell : ∀ o, (W1.alloc (.cells #[.int .u8 c, o] 76)).cell? ⟨W1.heap.size, 0, none⟩ = some (.int .u8 c) := fun o => cell_of _ (alloc_at W1 _ rfl) rfl
          obtain ⟨d, hd⟩ : ∃ d, bt t 1 = d := ⟨_, rfl⟩
          rw [hd] at i1
          have HD := Aside0.mk hd
          clear hd
          by_cases he : e = 0
          · have be : (e == 0) = true := beq_iff_eq.mpr he
            by_cases hcd : c = d
            · have bc : (c == d) = true := beq_iff_eq.mpr hcd
              go_wp2_with fail
              go_quiet (fail)
              go_wp2_with fail
              exact bodyPost_ret (v := .tuple #[.int .i64 k, .int .i64 n, .bool true]) (by simp [results, Try.results58, go_sem]) rfl (HY.out hs h0 k hk1 hk2 he (HC.out.trans (hcd.trans HD.out.symm)) _ (HB.out.trans (Below.mono (by exact pw_below_drewN (below_alloc KB.out _) _) HB.out.size)))
            · have bc : (c == d) = false := beq_eq_false_iff_ne.mpr hcd
              go_wp2_with fail
              go_quiet (fail)
              go_wp2_with fail
              go_roundw
              case rel => exact ⟨rfl, seen.push (k - 1).toNat, ⟨alloc_old (w := W1) _ K1.out⟩, ⟨alloc_old (w := W1) _ K2.out⟩, ⟨fun k2 h1 h2 h3 => by
                rcases Array.mem_push.1 h3 with h | h
                · exact GS.out k2 h1 h2 h
                · have : k2 = k := by omega
                  rw [this]; exact fun h => hcd (HC.out.symm.trans (h.2.trans HD.out))⟩, ⟨pw_below_drewN (below_alloc KB.out _) _⟩⟩
              case measure =>
                rw [rangeLeft_of G1.out G2'.out, rangeLeft_of (w := (W1.alloc _).drewN _) (alloc_old (w := W1) _ K1.out) (alloc_old (w := W1) _ K2.out)]
                exact HLT.out
          · have be : (e == 0) = false := beq_eq_false_iff_ne.mpr he
            go_wp2_with fail
            go_quiet (fail)
            go_wp2_with fail
            go_roundw
            case rel => exact ⟨rfl, seen.push (k - 1).toNat, ⟨alloc_old (w := W1) _ K1.out⟩, ⟨alloc_old (w := W1) _ K2.out⟩, ⟨fun k2 h1 h2 h3 => by
              rcases Array.mem_push.1 h3 with h | h
              · exact GS.out k2 h1 h2 h
              · have : k2 = k := by omega
                rw [this]; exact fun h => he h.1⟩, ⟨pw_below_drewN (below_alloc KB.out _) _⟩⟩
            case measure =>
              rw [rangeLeft_of G1.out G2'.out, rangeLeft_of (w := (W1.alloc _).drewN _) (alloc_old (w := W1) _ K1.out) (alloc_old (w := W1) _ K2.out)]
              exact HLT.out
    · have b1 : (bt t 0 != 45) = true := bne_iff_ne.mpr h0
      go_enter Try.func58, Try.ntmps58
      go_wp2_with fail
      exact bodyPost_ret (v := .tuple #[.int .i64 0, .int .i64 0, .bool false]) (by simp [results, Try.results58, go_sem]) rfl (HO.out (fun _ h => absurd h h0) _ (Below.refl _ _))
  · have b0 : decide ((t.size : Int) < 4) = true := decide_eq_true (by omega)
    go_enter Try.func58, Try.ntmps58
    go_wp2_with fail
    exact bodyPost_ret (v := .tuple #[.int .i64 0, .int .i64 0, .bool false]) (by simp [results, Try.results58, go_sem]) rfl (HO.out (fun h => absurd h hs) _ (Below.refl _ _))
theorem stream_marked.calls (k : Nat) (a0 : ByteArray) (r1 r2 : Int) (r3 : Bool) (w : World) (h : stream_marked.f k a0 = some (r1, r2, r3)) :
    Calls Try.prog 58 #[.string a0] w fun e w' => e = .returned (.tuple #[.int .i64 r1, .int .i64 r2, .bool r3]) ∧ Below w.heap.size w w' := by
  unfold stream_marked.f at h
  by_cases hc : 4 ≤ a0.size ∧ bt a0 0 = 45
  · rw [if_pos hc] at h
    obtain ⟨⟨n, e⟩, hp, h⟩ := Option.bind_eq_some_iff.mp h
    dsimp only at h
    refine stream_marked.callsA a0 w n e _ (fun _ _ w1 => base64_Parse.calls k _ n e w1 hp) (fun _ _ j h1 h2 he hl w' hw => ⟨?_, hw⟩) (fun hn w' hw => ⟨?_, hw⟩)
    · have hj : numOf (bt a0 1) = j := by rw [← hl]; exact numOf_letter h1 h2
      rw [hj, if_pos ⟨he, by omega⟩] at h
      simp only [Option.some.injEq, Prod.mk.injEq] at h
      obtain ⟨rfl, rfl, rfl⟩ := h
      rfl
    · have h0 : ¬ (e = 0 ∧ numOf (bt a0 1) ≠ 0) := fun h1 => h1.2 (numOf_none (fun j a b hl => hn hc.1 hc.2 j a b ⟨h1.1, hl⟩))
      rw [if_neg h0] at h
      simp only [Option.some.injEq, Prod.mk.injEq] at h
      obtain ⟨rfl, rfl, rfl⟩ := h
      rfl
  · rw [if_neg hc] at h
    simp only [Option.some.injEq, Prod.mk.injEq] at h
    obtain ⟨rfl, rfl, rfl⟩ := h
    exact stream_marked.callsA a0 w 0 0 _ (fun h1 h2 => absurd ⟨h1, h2⟩ hc) (fun h1 h2 => absurd ⟨h1, h2⟩ hc) (fun _ w' hw => ⟨rfl, hw⟩)

/-! ### base64_Decode: function 62 -/
def base64_Decode.l0 : Nat → ByteArray → List Int → Option (ByteArray × Int)
  | 0, _, _ => none
  | k + 1, x0, x4 => if x0.toList = ([] : List UInt8) then (some (strOfNums x4, 0)) else (if 0 ≤ 4 then (if 4 ≤ (x0.size : Int) then ((base64_number.f k (x0.extract 0 4)).bind fun bt196 => (if bt196.2 = true then ((some (([(bt196.1 / 65536) % 256, (bt196.1 / 256) % 256, (bt196.1) % 256] : List Int) : List Int)).bind fun y198 => (if x4.length + y198.length < 140737488355328 then (base64_Decode.l0 k (x0.extract 4 x0.size) (x4 ++ y198)) else (none))) else (some ((⟨#[]⟩ : ByteArray), 4)))) else (none)) else (none))
def base64_Decode.f (k : Nat) (a0 : ByteArray) : Option (ByteArray × Int) := if (a0.size : Int) > 131072 then (some ((⟨#[]⟩ : ByteArray), 3)) else (if ((a0.size : Int) % 4) = 0 then (if 0 ≤ (wrap64 ((wrap64 ((a0.size : Int) / 4)) * 3)) then (if (wrap64 ((wrap64 ((a0.size : Int) / 4)) * 3) : Int).toNat ≤ 281474976710656 then (base64_Decode.l0 k a0 (([] : List Int))) else (none)) else (none)) else (some ((⟨#[]⟩ : ByteArray), 8)))
theorem base64_Decode.mono_l : ∀ k, (∀ y0 y1, LeO (base64_Decode.l0 k y0 y1) (base64_Decode.l0 (k + 1) y0 y1))
  | 0 => fun _ _ r h => by simp [base64_Decode.l0] at h
  | k + 1 => by
    have ih0 := base64_Decode.mono_l k
    · intro y0 y1
      unfold base64_Decode.l0
      repeat' first
      | (with_reducible exact ih0 _ _)
      | (with_reducible exact base64_number.mono _ _)
      | (with_reducible exact LeO.refl _)
      | (with_reducible exact LeO.none _)
      | (with_reducible refine LeO.ite ?_ ?_)
      | (with_reducible refine LeO.bind ?_ (fun _ => ?_))
      | exact ih0 _ _
      | exact base64_number.mono _ _
      | exact LeO.none _
      | refine LeO.ite ?_ ?_
      | refine LeO.bind ?_ (fun _ => ?_)
theorem base64_Decode.mono : ∀ a0 k, LeO (base64_Decode.f k a0) (base64_Decode.f (k + 1) a0) := by
  intro a0 k
  have ih0 := base64_Decode.mono_l k
  unfold base64_Decode.f
  repeat' first
      | (with_reducible exact ih0 _ _)
      | (with_reducible exact base64_number.mono _ _)
      | (with_reducible exact LeO.refl _)
      | (with_reducible exact LeO.none _)
      | (with_reducible refine LeO.ite ?_ ?_)
      | (with_reducible refine LeO.bind ?_ (fun _ => ?_))
      | exact ih0 _ _
      | exact base64_number.mono _ _
      | exact LeO.none _
      | refine LeO.ite ?_ ?_
      | refine LeO.bind ?_ (fun _ => ?_)
set_option maxHeartbeats 8000000 in
set_option maxRecDepth 100000 in
theorem base64_Decode.calls (k : Nat) (a0 : ByteArray) (r1 : ByteArray) (r2 : Int) (w : World) (h : base64_Decode.f k a0 = some (r1, r2)) :
    Calls Try.prog 62 #[.string a0] w fun e w' => e = .returned (.tuple #[.string r1, .int .i64 r2]) ∧ Below w.heap.size w w' := by
 have HB := Aside0.mk (Below.refl w.heap.size w)
 have H : (if (a0.size : Int) > 131072 then (some ((⟨#[]⟩ : ByteArray), 3)) else (if ((a0.size : Int) % 4) = 0 then (if 0 ≤ (wrap64 ((wrap64 ((a0.size : Int) / 4)) * 3)) then (if (wrap64 ((wrap64 ((a0.size : Int) / 4)) * 3) : Int).toNat ≤ 281474976710656 then (base64_Decode.l0 k a0 (([] : List Int))) else (none)) else (none)) else (some ((⟨#[]⟩ : ByteArray), 8)))) = some (r1, r2) := h
 clear h
 by_cases c2 : (a0.size : Int) > 131072
 ·rw [if_pos c2] at H
  have c2b0 := decide_eq_true c2
  have c2b1 : decide (131072 < a0.size) = true := decide_eq_true (by omega)
  clear c2
  simp only [Option.some.injEq, Prod.mk.injEq] at H
  obtain ⟨rfl, rfl⟩ := H
  go_enter Try.func62, Try.ntmps62
  go_wp2
  go_ret2
  exact ⟨rq_, hq HB.out⟩
 ·rw [if_neg c2] at H
  have c2b0 := decide_eq_false c2
  have c2b1 : decide (131072 < a0.size) = false := decide_eq_false (by omega)
  clear c2
  by_cases c3 : ((a0.size : Int) % 4) = 0
  ·rw [if_pos c3] at H
   have c3b0 : (((a0.size : Int) % 4) == 0) = true := beq_iff_eq.mpr c3
   have c3b1 : (((a0.size : Int) % 4) != 0) = false := bne_eq_false_iff_eq.mpr c3
   clear c3
   obtain ⟨ji4, hji4⟩ : ∃ j_ : Int, (wrap64 ((wrap64 ((a0.size : Int) / 4)) * 3)) = j_ := ⟨_, rfl⟩
   replace H : (if 0 ≤ (ji4) then (if (ji4 : Int).toNat ≤ 281474976710656 then (base64_Decode.l0 k a0 (([] : List Int))) else (none)) else (none)) = some (r1, r2) := by first | (rw [hji4] at H; exact H) | (simp only [hji4] at H ⊢; exact H)
   have hji4w : (IntKind.i64.wrap ((wrap64 ((a0.size : Int) / 4)) * 3)) = ji4 := (i64_w _).trans hji4
   by_cases c5 : 0 ≤ (ji4)
   ·rw [if_pos c5] at H
    have c5b0 := eq_true c5
    have c5b1 := decide_eq_true c5
    clear c5
    by_cases c6 : (ji4 : Int).toNat ≤ 281474976710656
    ·rw [if_pos c6] at H
     have c6b0 := eq_true c6
     have c6b1 := decide_eq_true c6
     clear c6
     obtain ⟨y193, hy193⟩ : ∃ y_ : List Int, y_ = (([] : List Int)) := ⟨_, rfl⟩
     replace H : (base64_Decode.l0 k a0 y193) = some (r1, r2) := by first | (rw [hy193]; with_reducible exact H) | (have H2_ := (Option.bind_some _ _).symm.trans H; rw [hy193]; with_reducible exact H2_) | (have H2_ := (Option.bind_some _ _).symm.trans H; with_reducible exact H2_) | with_reducible exact H | (rw [hy193]; exact H) | exact H
     have Ny193 := Aside0.mk hy193
     clear hy193
     have H' := Aside0.mk H
     clear H
     go_enter Try.func62, Try.ntmps62
     go_wp2_with (first | ((with_reducible refine gate_dst (N := 20) rfl ?_); refine Kd.R_makecap (Kd.int .u8) _ 5 rfl (N := 20) rfl 28 _ _ rfl ji4 rfl rfl Try.underlying28 (.int .u8 0) 1 info5 (by decide) (ok := fun _ => True) trivial (of_decide_eq_true aq) (Nat.le_trans (Nat.mul_le_mul_right _ (of_decide_eq_true aq : ji4.toNat ≤ 281474976710656)) (by omega)) (Below.refl _ _) (Nat.le_refl _) ?_; intro v194 w7 ho8 hb hg_ hnew_; clear hg_ hnew_; (first | rw [← Ny193.out] at ho8 | (simp only [Int.reduceToNat] at ho8; rw [← Ny193.out] at ho8)); have HO195 := Aside0.mk (Kd.R_lower ho8 (below_size (hq HB.out))); replace HB := Aside0.mk (below_step (hq HB.out) hb); clear hb ho8))
     go_loopg [0,4] k (fun kq v0 v4 w' => ∃ (x0_1 : ByteArray) (x4_1 : List Int), v0 = .string x0_1 ∧ Aside0 (base64_Decode.l0 kq x0_1 x4_1 = some (r1, r2)) ∧ Aside0 (kq ≤ k) ∧ Aside0 (Kd.R (Kd.int .u8) 5 w' w.heap.size (fun _ => True) v4 x4_1) ∧ Aside0 (Below w.heap.size w w'))
     case atStart => exact ⟨(a0), (y193), dq, H', ⟨Nat.le_refl _⟩, ⟨by (with_reducible repeat (first | apply Kd.R_alloc | apply Kd.R_drewN | apply Kd.R_drew)); exact HO195.out⟩, ⟨hq HB.out⟩⟩
     case round =>
      clear H'
      try clear c2
      try clear c2b0
      try clear c2b1
      try clear p2
      try clear c3
      try clear c3b0
      try clear c3b1
      try clear c5
      try clear c5b0
      try clear c5b1
      try clear c6
      try clear c6b0
      try clear c6b1
      try clear p6
      obtain ⟨x0_1, x4_1, rfl, HA, HK1, HO_4, HB⟩ := hrel
      cases gk with
      | zero => exact absurd HA.out (by simp [base64_Decode.l0])
      | succ k1 =>
       have H := HA.out
       clear HA
       simp only [base64_Decode.l0] at H
       by_cases c9 : x0_1.toList = ([] : List UInt8)
       ·rw [if_pos c9] at H
        have c9b0 : (x0_1.toList == ([] : List UInt8)) = true := beq_iff_eq.mpr c9
        have c9b1 : (x0_1.toList != ([] : List UInt8)) = false := bne_eq_false_iff_eq.mpr c9
        clear c9
        simp only [Option.some.injEq, Prod.mk.injEq] at H
        obtain ⟨rfl, rfl⟩ := H
        have hcv10 := own_string (P := Try.prog) Try.underlying28 Try.underlying5 Try.underlying9 (Kd.own_of_R HO_4.out)
        go_wp2
        go_ret2
        exact ⟨by first | rfl | (simp [errW_none, errW_some] <;> rfl) | (simp only [← hji4]; first | rfl | (simp [errW_none, errW_some] <;> rfl)) | (simp [*, errW_none, errW_some] <;> rfl), hq HB.out⟩
       ·rw [if_neg c9] at H
        have c9b0 : (x0_1.toList == ([] : List UInt8)) = false := beq_eq_false_iff_ne.mpr c9
        have c9b1 : (x0_1.toList != ([] : List UInt8)) = true := bne_iff_ne.mpr c9
        by_cases c11 : 0 ≤ 4
        ·rw [if_pos c11] at H
         have c11b0 := eq_true c11
         have c11b1 := decide_eq_true c11
         clear c11
         by_cases c12 : 4 ≤ (x0_1.size : Int)
         ·rw [if_pos c12] at H
          have c12b0 := eq_true c12
          have c12b1 := decide_eq_true c12
          clear c12
          obtain ⟨⟨t196, t197⟩, A13, H⟩ := bindS H
          try dsimp only at H
          by_cases c14 : t197 = true
          ·subst c14
           rw [if_pos rfl] at H
           obtain ⟨y198, hy198⟩ : ∃ y_ : List Int, y_ = (([(t196 / 65536) % 256, (t196 / 256) % 256, (t196) % 256] : List Int)) := ⟨_, rfl⟩
           replace H : (if x4_1.length + y198.length < 140737488355328 then (base64_Decode.l0 k1 (x0_1.extract 4 x0_1.size) (x4_1 ++ y198)) else (none)) = some (r1, r2) := by first | (rw [hy198]; with_reducible exact H) | (have H2_ := (Option.bind_some _ _).symm.trans H; rw [hy198]; with_reducible exact H2_) | (have H2_ := (Option.bind_some _ _).symm.trans H; with_reducible exact H2_) | with_reducible exact H | (rw [hy198]; exact H) | exact H
           have Ny198 := Aside0.mk hy198
           clear hy198
           by_cases c15 : x4_1.length + y198.length < 140737488355328
           ·rw [if_pos c15] at H
            have LMc15 := Aside0.mk c15
            clear c15
            obtain ⟨y201, hy201⟩ : ∃ y_ : List Int, y_ = (x4_1 ++ y198) := ⟨_, rfl⟩
            replace H : (base64_Decode.l0 k1 (x0_1.extract 4 x0_1.size) y201) = some (r1, r2) := by first | (rw [hy201]; with_reducible exact H) | (have H2_ := (Option.bind_some _ _).symm.trans H; rw [hy201]; with_reducible exact H2_) | (have H2_ := (Option.bind_some _ _).symm.trans H; with_reducible exact H2_) | with_reducible exact H | (rw [hy201]; exact H) | exact H
            have Ny201 := Aside0.mk hy201
            clear hy201
            have c16b0 := eq_true (of_decide_eq_true aq : 4 ≤ (x0_1.size : Int))
            (try have c16b1 : decide (4 ≤ x0_1.size) = true := decide_eq_true (by have h_ := of_eq_true c16b0; omega))
            have H' := Aside0.mk H
            clear H
            go_wp2_with (first | ((with_reducible refine gate_callee (f := 73) rfl ?_); refine goesL_ (some 28) rfl rfl Try.func73 (by kernel_rfl) rfl #[.string (x0_1.extract 0 4)] rfl eq_ ?_; (with_reducible refine (base64_number.calls k1 (x0_1.extract 0 4) t196 true _ A13.out).mono ?_); rintro e w17 ⟨rfl, hb⟩; refine ⟨_, rfl, ?_⟩; replace HO_4 := Aside0.mk (Kd.R_below (qR HO_4.out) hb); replace HB := Aside0.mk (below_step (hq HB.out) hb); (try clear hb)) | ((with_reducible refine gate_dst (N := 42) rfl ?_); refine Kd.R_lit (Kd.int .u8) _ 5 ?hg (N := 42) ?hd (xs := ([(t196 / 65536) % 256, (t196 / 256) % 256, (t196) % 256] : List Int)) (inner := [.int .u8 ((t196 / 65536) % 256), .int .u8 ((t196 / 256) % 256), .int .u8 ((t196) % 256)]) (ok := fun _ => True) (okp := fun _ => True) ?hr ?hp (fun _ hk => hk) trivial (Below.refl _ _) (Nat.le_refl _) (by simp) ?_; (case hd => rfl); (case hg => rfl); (case hr => first | (go_simp; done) | (go_simp; rfl)); (case hp => exact (Reps.one (show Kd.M (Kd.int .u8) _ _ _ ((t196 / 65536) % 256) [.int .u8 ((t196 / 65536) % 256)] from rfl) (Reps.one (show Kd.M (Kd.int .u8) _ _ _ ((t196 / 256) % 256) [.int .u8 ((t196 / 256) % 256)] from rfl) (Reps.one (show Kd.M (Kd.int .u8) _ _ _ ((t196) % 256) [.int .u8 ((t196) % 256)] from rfl) (Reps.none _ _))))); intro v199 w18 ho19 hb hg_ hnew_; clear hg_ hnew_; (first | rw [← Ny198.out] at ho19 | (simp only [Int.reduceToNat] at ho19; rw [← Ny198.out] at ho19)); have HO200 := Aside0.mk (Kd.R_lower (Kd.R_new' ho19 (Kd.R_lt (qR HO_4.out))) (below_size (hq HB.out))); replace HO_4 := Aside0.mk (Kd.R_elder' (qR HO_4.out) (Kd.R_base ho19) hb); replace HB := Aside0.mk (below_step (hq HB.out) hb); clear hb ho19; obtain ⟨Ao21, co21, eo21⟩ := Kd.R_slice HO200.out; subst eo21) | ((with_reducible refine gate_builtin (b := .append) (xs := #[.tmp 33, .tmp 42]) rfl ?_); at_builtin; refine Kd.R_append_rows (Kd.int .u8) (w0 := w) w.heap.size rfl (.tmp 33) (.tmp 42) 28 5 (.int .u8 0) 1 rfl Try.underlying28 info5 rfl (by decide) (by omega) u4 x4_1 y198 _ _ _ (fun k_ => some k_ ≠ (.slice Ao21 y198.length co21 : Value).ownBlock) (fun _ => False) rfl rfl ?aO ?aR (fun _ _ h => h) (fun _ h => h.elim) ?aF ?aB ?aS ?aL ?_; (case aR => repeat (first | exact (Kd.R_reads' HO200.out).2.2 | (with_reducible refine Kd.C_alloc ?_ _) | (with_reducible refine Kd.C_drewN ?_ _) | (with_reducible refine Kd.C_drew ?_))); (case aB => exact (hq HB.out)); (case aF => exact (fun k_ hk => Kd.fresh' (Kd.R_lt (qR HO200.out)) k_ hk)); (case aO => exact (by (with_reducible repeat (first | apply Kd.R_alloc | apply Kd.R_drewN | apply Kd.R_drew)); exact Kd.R_mono HO_4.out (fun _ hk => hk.2))); (case aS => exact (below_size (hq HB.out))); (case aL => have := LMc15.out; omega); intro v202 w20 ho hb hg hat; rw [← Ny201.out] at ho; have n0_ := Aside0.mk (Kd.R_after (ok := (fun _ => True)) (qR HO200.out) hg hat); have n1_ := Aside0.mk (hb); have n2_ := Aside0.mk (ho); clear HO200; clear HB; clear HO_4; have HO200 := n0_; have HB := n1_; have HO203 := n2_; clear n0_ n1_ n2_; clear ho hb hg hat))
            go_roundg k1
            case measure => have := HK1.out; omega
            case rel => exact ⟨(x0_1.extract 4 x0_1.size), (y201), dq, H', ⟨by have := HK1.out; omega⟩, ⟨by (with_reducible repeat (first | apply Kd.R_alloc | apply Kd.R_drewN | apply Kd.R_drew)); exact Kd.R_mono HO203.out (fun _ hk => trivial)⟩, ⟨hq HB.out⟩⟩
           ·rw [if_neg c15] at H
            exact absurd H (by simp)
          ·replace c14 := Bool.eq_false_iff.mpr c14
           subst c14
           rw [if_neg (show ¬ (false = true) by decide)] at H
           simp only [Option.some.injEq, Prod.mk.injEq] at H
           obtain ⟨rfl, rfl⟩ := H
           go_wp2_with (first | ((with_reducible refine gate_callee (f := 73) rfl ?_); refine goesL_ (some 28) rfl rfl Try.func73 (by kernel_rfl) rfl #[.string (x0_1.extract 0 4)] rfl eq_ ?_; (with_reducible refine (base64_number.calls k1 (x0_1.extract 0 4) t196 false _ A13.out).mono ?_); rintro e w22 ⟨rfl, hb⟩; refine ⟨_, rfl, ?_⟩; replace HO_4 := Aside0.mk (Kd.R_below (qR HO_4.out) hb); replace HB := Aside0.mk (below_step (hq HB.out) hb); (try clear hb)))
           go_ret2
           exact ⟨by first | rfl | (simp [errW_none, errW_some] <;> rfl) | (simp only [← hji4]; first | rfl | (simp [errW_none, errW_some] <;> rfl)) | (simp [*, errW_none, errW_some] <;> rfl), hq HB.out⟩
         ·rw [if_neg c12] at H
          exact absurd H (by simp)
        ·rw [if_neg c11] at H
         exact absurd H (by simp)
    ·rw [if_neg c6] at H
     exact absurd H (by simp)
   ·rw [if_neg c5] at H
    exact absurd H (by simp)
  ·rw [if_neg c3] at H
   have c3b0 : (((a0.size : Int) % 4) == 0) = false := beq_eq_false_iff_ne.mpr c3
   have c3b1 : (((a0.size : Int) % 4) != 0) = true := bne_iff_ne.mpr c3
   simp only [Option.some.injEq, Prod.mk.injEq] at H
   obtain ⟨rfl, rfl⟩ := H
   go_enter Try.func62, Try.ntmps62
   go_wp2
   go_ret2
   exact ⟨rq_, hq HB.out⟩

end Go.Proofs.Ytookjdhfpbmjkaa.X
