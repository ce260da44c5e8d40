-- Written by xprint.py, a program of this repo that leads the kit's print.py: Lean checks it.
import Derived.Test.YtgicgdiklinomaaX0
import Derived.Test.YtgicgdiklinomaaX16
namespace Go.Proofs.Ytgicgdiklinomaa.X
open Go.RowKit Go.Proofs.YtgicgdiklinomaaW.PrintWords Go.Proofs.YtgicgdiklinomaaW.PrintLast Go.Proofs.YtgicgdiklinomaaW.PrintMore
attribute [local go_sem] max2_int min2_int max_two min_two max_three min_three max_four min_four   -- for this text's walks alone
set_option linter.unusedVariables false
set_option linter.unusedSimpArgs false

/-! ### keyeventref01_Decode: function 44 -/
mutual
def keyeventref01_Decode.l0 : Nat → ByteArray → List Int → Int → Option (ByteArray × Int)
  | 0, _, _, _ => none
  | k + 1, x0, x4, x5 => if x5 < (x0.size : Int) then (keyeventref01_Decode.l1 k x0 x4 x5 0 0) else (some (strOfNums x4, 0))
def keyeventref01_Decode.l1 : Nat → ByteArray → List Int → Int → Int → Int → Option (ByteArray × Int)
  | 0, _, _, _, _, _ => none
  | k + 1, x0, x4, x5, x6, x25 => if x25 < 4 then (if 0 ≤ (wrap64 (x5 + x25)) then (if (wrap64 (x5 + x25)) < (x0.size : Int) then ((keyeventref01_Value.f k (bt x0 (wrap64 (x5 + x25)))).bind fun bt213 => (if bt213.2 = true then (keyeventref01_Decode.l1 k x0 x4 x5 (Go.bits .or .i64 (wrap64 (x6 * 64)) bt213.1) (wrap64 (x25 + 1))) else (some ((⟨#[]⟩ : ByteArray), 4)))) else (none)) else (none)) else ((some (([(x6 / 65536) % 256, (x6 / 256) % 256, (x6) % 256] : List Int) : List Int)).bind fun y215 => (if x4.length + y215.length < 140737488355328 then (keyeventref01_Decode.l0 k x0 (x4 ++ y215) (wrap64 (x5 + 4))) else (none)))
end
def keyeventref01_Decode.f (k : Nat) (a0 : ByteArray) : Option (ByteArray × Int) := if (a0.size : Int) > 131072 then (some ((⟨#[]⟩ : ByteArray), 3)) else (if ((a0.size : Int) % 4) = 0 then (keyeventref01_Decode.l0 k a0 ([] : List Int) 0) else (some ((⟨#[]⟩ : ByteArray), 8)))
theorem keyeventref01_Decode.mono_l : ∀ k, (∀ y0 y1 y2, LeO (keyeventref01_Decode.l0 k y0 y1 y2) (keyeventref01_Decode.l0 (k + 1) y0 y1 y2)) ∧ (∀ y0 y1 y2 y3 y4, LeO (keyeventref01_Decode.l1 k y0 y1 y2 y3 y4) (keyeventref01_Decode.l1 (k + 1) y0 y1 y2 y3 y4))
  | 0 => ⟨fun _ _ _ r h => by simp [keyeventref01_Decode.l0] at h, fun _ _ _ _ _ r h => by simp [keyeventref01_Decode.l1] at h⟩
  | k + 1 => by
    obtain ⟨ih0, ih1⟩ := keyeventref01_Decode.mono_l k
    refine ⟨?_, ?_⟩
    · intro y0 y1 y2
      unfold keyeventref01_Decode.l0
      repeat' first
      | (with_reducible exact ih0 _ _ _)
      | (with_reducible exact ih1 _ _ _ _ _)
      | (with_reducible exact keyeventref01_Value.mono _ _)
      | (with_reducible exact LeO.refl _)
      | (with_reducible exact LeO.none _)
      | (with_reducible refine LeO.ite ?_ ?_)
      | (with_reducible refine LeO.bind ?_ (fun _ => ?_))
      | exact ih0 _ _ _
      | exact ih1 _ _ _ _ _
      | exact keyeventref01_Value.mono _ _
      | exact LeO.none _
      | refine LeO.ite ?_ ?_
      | refine LeO.bind ?_ (fun _ => ?_)
    · intro y0 y1 y2 y3 y4
      unfold keyeventref01_Decode.l1
      repeat' first
      | (with_reducible exact ih0 _ _ _)
      | (with_reducible exact ih1 _ _ _ _ _)
      | (with_reducible exact keyeventref01_Value.mono _ _)
      | (with_reducible exact LeO.refl _)
      | (with_reducible exact LeO.none _)
      | (with_reducible refine LeO.ite ?_ ?_)
      | (with_reducible refine LeO.bind ?_ (fun _ => ?_))
      | exact ih0 _ _ _
      | exact ih1 _ _ _ _ _
      | exact keyeventref01_Value.mono _ _
      | exact LeO.none _
      | refine LeO.ite ?_ ?_
      | refine LeO.bind ?_ (fun _ => ?_)
theorem keyeventref01_Decode.mono : ∀ a0 k, LeO (keyeventref01_Decode.f k a0) (keyeventref01_Decode.f (k + 1) a0) := by
  intro a0 k
  obtain ⟨ih0, ih1⟩ := keyeventref01_Decode.mono_l k
  unfold keyeventref01_Decode.f
  repeat' first
      | (with_reducible exact ih0 _ _ _)
      | (with_reducible exact ih1 _ _ _ _ _)
      | (with_reducible exact keyeventref01_Value.mono _ _)
      | (with_reducible exact LeO.refl _)
      | (with_reducible exact LeO.none _)
      | (with_reducible refine LeO.ite ?_ ?_)
      | (with_reducible refine LeO.bind ?_ (fun _ => ?_))
      | exact ih0 _ _ _
      | exact ih1 _ _ _ _ _
      | exact keyeventref01_Value.mono _ _
      | exact LeO.none _
      | refine LeO.ite ?_ ?_
      | refine LeO.bind ?_ (fun _ => ?_)
set_option maxHeartbeats 8000000 in
set_option maxRecDepth 100000 in
theorem keyeventref01_Decode.calls (k : Nat) (a0 : ByteArray) (r1 : ByteArray) (r2 : Int) (w : World) (h : keyeventref01_Decode.f k a0 = some (r1, r2)) :
    Calls Try.prog 44 #[.string a0] w fun e w' => e = .returned (.tuple #[.string r1, .int .i64 r2]) ∧ Below w.heap.size w w' := by
  have HB := Aside0.mk (Below.refl w.heap.size w)
  have H : (if (a0.size : Int) > 131072 then (some ((⟨#[]⟩ : ByteArray), 3)) else (if ((a0.size : Int) % 4) = 0 then (keyeventref01_Decode.l0 k a0 ([] : List Int) 0) else (some ((⟨#[]⟩ : ByteArray), 8)))) = some (r1, r2) := h
  clear h
  by_cases c2 : (a0.size : Int) > 131072
  · rw [if_pos c2] at H
    have c2b0 : decide (131072 < (a0.size : Int)) = true := decide_eq_true c2
    have c2b1 : decide (131072 < a0.size) = true := decide_eq_true (by omega)
    clear c2
    simp only [Option.some.injEq, Prod.mk.injEq] at H
    obtain ⟨rfl, rfl⟩ := H
    go_enter Try.func44, Try.ntmps44
    go_wp2
    go_ret2
    exact ⟨by first | rfl | (simp [errW_none, errW_some] <;> rfl) | (simp [*, errW_none, errW_some] <;> rfl), by repeat (first | (with_reducible first | exact HB.out | apply below_alloc | apply pw_below_drewN | apply below_drew1) | exact HB.out)⟩
  · rw [if_neg c2] at H
    have c2b0 : decide (131072 < (a0.size : Int)) = false := decide_eq_false c2
    have c2b1 : decide (131072 < a0.size) = false := decide_eq_false (by omega)
    clear c2
    by_cases c3 : ((a0.size : Int) % 4) = 0
    · rw [if_pos c3] at H
      have c3b0 : (((a0.size : Int) % 4) == 0) = true := beq_iff_eq.mpr c3
      have c3b1 : (((a0.size : Int) % 4) != 0) = false := bne_eq_false_iff_eq.mpr c3
      clear c3
      have H' := Aside0.mk H
      clear H
      go_enter Try.func44, Try.ntmps44
      go_wp2
      go_loopg [4, 5] k (fun kq v4 v5 w' => ∃ (x4_1 : List Int) (x5_1 : Int), v5 = .int .i64 x5_1 ∧ Aside0 (keyeventref01_Decode.l0 kq a0 x4_1 x5_1 = some (r1, r2)) ∧ Aside0 (kq ≤ k) ∧ Aside0 (Kd.R (Kd.int .u8) 5 w' w.heap.size (fun _ => True) v4 x4_1) ∧ Aside0 (Below w.heap.size w w'))
      case atStart => exact ⟨(([] : List Int)), (0), (by first | rfl | (simp; done) | (simp [*]; done)), H', ⟨Nat.le_refl _⟩, ⟨by first | exact Kd.R_nil _ _ _ _ _ | exact Kd.N_nil _ _ _ _ _ | exact Kd.V_nil _ _ _ _ _ | exact Kd.Q_nil _ _ _ _ _ | exact Kd.S_nil _ _ _ _ _⟩, ⟨by repeat (first | (with_reducible first | exact HB.out | apply below_alloc | apply pw_below_drewN | apply below_drew1) | exact HB.out)⟩⟩
      case round =>
        clear H'
        try clear c2
        try clear c2b0
        try clear c2b1
        try clear p2
        try clear c3
        try clear c3b0
        try clear c3b1
        obtain ⟨x4_1, x5_1, rfl, HA, HK1, HO_4, HB⟩ := hrel
        cases gk with
        | zero => exact absurd HA.out (by simp [keyeventref01_Decode.l0])
        | succ k1 =>
          have H := HA.out
          clear HA
          simp only [keyeventref01_Decode.l0] at H
          by_cases c4 : x5_1 < (a0.size : Int)
          · rw [if_pos c4] at H
            have c4b0 : decide (x5_1 < (a0.size : Int)) = true := decide_eq_true c4
            clear c4
            have H' := Aside0.mk H
            clear H
            go_wp2
            go_loopg [6, 25] k1 (fun kq v6 v25 w' => ∃ (x6_2 : Int) (x25_2 : Int), v6 = .int .i64 x6_2 ∧ v25 = .int .i64 x25_2 ∧ Aside0 (keyeventref01_Decode.l1 kq a0 x4_1 x5_1 x6_2 x25_2 = some (r1, r2)) ∧ Aside0 (kq ≤ k1) ∧ Aside0 (Kd.R (Kd.int .u8) 5 w' w.heap.size (fun _ => True) u4 x4_1) ∧ Aside0 (Below w.heap.size w w'))
            case atStart => exact ⟨(0), (0), (by first | rfl | (simp; done) | (simp [*]; done)), (by first | rfl | (simp; done) | (simp [*]; done)), H', ⟨Nat.le_refl _⟩, ⟨by (with_reducible repeat (first | apply Kd.R_alloc | apply Kd.R_drewN | apply Kd.R_drew)); exact HO_4.out⟩, ⟨by repeat (first | (with_reducible first | exact HB.out | apply below_alloc | apply pw_below_drewN | apply below_drew1) | exact HB.out)⟩⟩
            case round =>
              clear H'
              try clear c2
              try clear c2b0
              try clear c2b1
              try clear p2
              try clear c3
              try clear c3b0
              try clear c3b1
              try clear c4
              try clear c4b0
              try clear p2
              obtain ⟨x6_2, x25_2, rfl, rfl, HA, HK2, HO_4, HB⟩ := hrel
              cases gk with
              | zero => exact absurd HA.out (by simp [keyeventref01_Decode.l1])
              | succ k2 =>
                have H := HA.out
                clear HA
                simp only [keyeventref01_Decode.l1] at H
                by_cases c5 : x25_2 < 4
                · rw [if_pos c5] at H
                  have c5b0 : decide (x25_2 < 4) = true := decide_eq_true c5
                  clear c5
                  obtain ⟨ji6, hji6⟩ : ∃ j_ : Int, (wrap64 (x5_1 + x25_2)) = j_ := ⟨_, rfl⟩
                  replace H : (if 0 ≤ (ji6) then (if (ji6) < (a0.size : Int) then ((keyeventref01_Value.f k2 (bt a0 (ji6))).bind fun bt213 => (if bt213.2 = true then (keyeventref01_Decode.l1 k2 a0 x4_1 x5_1 (Go.bits .or .i64 (wrap64 (x6_2 * 64)) bt213.1) (wrap64 (x25_2 + 1))) else (some ((⟨#[]⟩ : ByteArray), 4)))) else (none)) else (none)) = some (r1, r2) := by first | (rw [hji6] at H; exact H) | (simp only [hji6] at H ⊢; exact H)
                  have hji6w : (IntKind.i64.wrap (x5_1 + x25_2)) = ji6 := (i64_w _).trans hji6
                  by_cases c7 : 0 ≤ (ji6)
                  · rw [if_pos c7] at H
                    have c7b0 : decide (0 ≤ (ji6)) = true := decide_eq_true c7
                    clear c7
                    by_cases c8 : (ji6) < (a0.size : Int)
                    · rw [if_pos c8] at H
                      have c8b0 : decide ((ji6) < (a0.size : Int)) = true := decide_eq_true c8
                      clear c8
                      replace H := Option.bind_eq_some_iff.mp H
                      obtain ⟨⟨t213, t214⟩, A100, H⟩ := H
                      replace H : (if t214 = true then (keyeventref01_Decode.l1 k2 a0 x4_1 x5_1 (Go.bits .or .i64 (wrap64 (x6_2 * 64)) t213) (wrap64 (x25_2 + 1))) else (some ((⟨#[]⟩ : ByteArray), 4))) = some (r1, r2) := H
                      have A10 := Aside0.mk A100
                      clear A100
                      by_cases c11 : t214 = true
                      · subst c11
                        have H1 : (keyeventref01_Decode.l1 k2 a0 x4_1 x5_1 (Go.bits .or .i64 (wrap64 (x6_2 * 64)) t213) (wrap64 (x25_2 + 1))) = some (r1, r2) := by rw [if_pos rfl] at H; exact H
                        clear H
                        have H := H1
                        clear H1
                        have H' := Aside0.mk H
                        clear H
                        have p9 : 0 ≤ ((ji6) : Int) := of_decide_eq_true (by first | (with_reducible assumption) | assumption)
                        have q9 : (ji6) < (a0.size : Int) := of_decide_eq_true (by first | (with_reducible assumption) | assumption)
                        have hx9 := bt_at a0 (ji6)
                        replace p9 := eq_true p9
                        replace q9 := eq_true q9
                        go_wp2_with (first | ((with_reducible refine gate_callee (f := 53) rfl ?_); refine goesL_ (some 34) rfl rfl Try.func53 (by kernel_rfl) rfl #[.int .u8 (bt a0 (ji6))] rfl (by (try simp only [List.map_toArray, List.map_cons, List.map_nil]); first | done | (simp only [hji6]; rfl) | rfl | (simp only [List.length_drop, List.length_take]; rfl)) ?_; (with_reducible refine (keyeventref01_Value.calls k2 (bt a0 (ji6)) t213 true _ A10.out).mono ?_); rintro e w' ⟨rfl, ⟨nd, rfl⟩⟩; refine ⟨_, rfl, ?_⟩))
                        go_roundg k2
                        case measure => have := HK1.out; have := HK2.out; omega
                        case rel => exact ⟨(Go.bits .or .i64 (wrap64 (x6_2 * 64)) t213), (wrap64 (x25_2 + 1)), (by first | rfl | (simp; done) | (simp [*]; done)), (by first | rfl | (simp; done) | (simp [*]; done)), H', ⟨by have := HK1.out; have := HK2.out; omega⟩, ⟨by (with_reducible repeat (first | apply Kd.R_alloc | apply Kd.R_drewN | apply Kd.R_drew)); exact HO_4.out⟩, ⟨by repeat (first | (with_reducible first | exact HB.out | apply below_alloc | apply pw_below_drewN | apply below_drew1) | exact HB.out)⟩⟩
                      · replace c11 := Bool.eq_false_iff.mpr c11
                        subst c11
                        have H1 : (some ((⟨#[]⟩ : ByteArray), 4)) = some (r1, r2) := by rw [if_neg (show ¬ (false = true) by decide)] at H; exact H
                        clear H
                        have H := H1
                        clear H1
                        simp only [Option.some.injEq, Prod.mk.injEq] at H
                        obtain ⟨rfl, rfl⟩ := H
                        have p9 : 0 ≤ ((ji6) : Int) := of_decide_eq_true (by first | (with_reducible assumption) | assumption)
                        have q9 : (ji6) < (a0.size : Int) := of_decide_eq_true (by first | (with_reducible assumption) | assumption)
                        have hx9 := bt_at a0 (ji6)
                        replace p9 := eq_true p9
                        replace q9 := eq_true q9
                        go_wp2_with (first | ((with_reducible refine gate_callee (f := 53) rfl ?_); refine goesL_ (some 34) rfl rfl Try.func53 (by kernel_rfl) rfl #[.int .u8 (bt a0 (ji6))] rfl (by (try simp only [List.map_toArray, List.map_cons, List.map_nil]); first | done | (simp only [hji6]; rfl) | rfl | (simp only [List.length_drop, List.length_take]; rfl)) ?_; (with_reducible refine (keyeventref01_Value.calls k2 (bt a0 (ji6)) t213 false _ A10.out).mono ?_); rintro e w' ⟨rfl, ⟨nd, rfl⟩⟩; refine ⟨_, rfl, ?_⟩))
                        go_ret2
                        exact ⟨by first | rfl | (simp [errW_none, errW_some] <;> rfl) | (simp only [← hji6]; first | rfl | (simp [errW_none, errW_some] <;> rfl)) | (simp [*, errW_none, errW_some] <;> rfl), by repeat (first | (with_reducible first | exact HB.out | apply below_alloc | apply pw_below_drewN | apply below_drew1) | exact HB.out)⟩
                    · rw [if_neg c8] at H
                      exact absurd H (by simp)
                  · rw [if_neg c7] at H
                    exact absurd H (by simp)
                · rw [if_neg c5] at H
                  have c5b0 : decide (x25_2 < 4) = false := decide_eq_false c5
                  clear c5
                  obtain ⟨y215, hy215⟩ : ∃ y_ : List Int, y_ = (([(x6_2 / 65536) % 256, (x6_2 / 256) % 256, (x6_2) % 256] : List Int)) := ⟨_, rfl⟩
                  replace H : (if x4_1.length + y215.length < 140737488355328 then (keyeventref01_Decode.l0 k2 a0 (x4_1 ++ y215) (wrap64 (x5_1 + 4))) else (none)) = some (r1, r2) := by first | (rw [hy215]; with_reducible exact H) | (have H2_ := (Option.bind_some _ _).symm.trans H; rw [hy215]; with_reducible exact H2_) | (have H2_ := (Option.bind_some _ _).symm.trans H; with_reducible exact H2_) | with_reducible exact H | (rw [hy215]; exact H) | exact H
                  have Ny215 := Aside0.mk hy215
                  clear hy215
                  by_cases c12 : x4_1.length + y215.length < 140737488355328
                  · rw [if_pos c12] at H
                    have LMc12 := Aside0.mk c12
                    clear c12
                    obtain ⟨y218, hy218⟩ : ∃ y_ : List Int, y_ = (x4_1 ++ y215) := ⟨_, rfl⟩
                    replace H : (keyeventref01_Decode.l0 k2 a0 y218 (wrap64 (x5_1 + 4))) = some (r1, r2) := by first | (rw [hy218]; with_reducible exact H) | (have H2_ := (Option.bind_some _ _).symm.trans H; rw [hy218]; with_reducible exact H2_) | (have H2_ := (Option.bind_some _ _).symm.trans H; with_reducible exact H2_) | with_reducible exact H | (rw [hy218]; exact H) | exact H
                    have Ny218 := Aside0.mk hy218
                    clear hy218
                    have H' := Aside0.mk H
                    clear H
                    go_wp2_with (first | ((with_reducible refine gate_dst (N := 53) rfl ?_); refine Kd.R_lit (Kd.int .u8) _ 5 ?hg (N := 53) ?hd (xs := ([(x6_2 / 65536) % 256, (x6_2 / 256) % 256, (x6_2) % 256] : List Int)) (inner := [.int .u8 ((x6_2 / 65536) % 256), .int .u8 ((x6_2 / 256) % 256), .int .u8 ((x6_2) % 256)]) (ok := fun _ => True) (okp := fun _ => True) ?hr ?hp (fun _ hk => hk) trivial (Below.refl _ _) (Nat.le_refl _) (by simp) ?_; (case hd => rfl); (case hg => rfl); (case hr => first | (go_simp; done) | (go_simp; rfl)); (case hp => exact (Reps.one (show Kd.M (Kd.int .u8) _ _ _ ((x6_2 / 65536) % 256) [.int .u8 ((x6_2 / 65536) % 256)] from rfl) (Reps.one (show Kd.M (Kd.int .u8) _ _ _ ((x6_2 / 256) % 256) [.int .u8 ((x6_2 / 256) % 256)] from rfl) (Reps.one (show Kd.M (Kd.int .u8) _ _ _ ((x6_2) % 256) [.int .u8 ((x6_2) % 256)] from rfl) (Reps.none _ _))))); intro v216 w13 ho14 hb hg_ hnew_; clear hg_ hnew_; (first | rw [← Ny215.out] at ho14 | (simp only [Int.reduceToNat] at ho14; rw [← Ny215.out] at ho14)); have n0_ := Aside0.mk (Kd.R_elder' (by (with_reducible repeat (first | apply Kd.R_alloc | apply Kd.R_drewN | apply Kd.R_drew)); exact HO_4.out) (Kd.R_base ho14) hb); have n1_ := Aside0.mk (Kd.R_lower (Kd.R_new' ho14 (Kd.R_lt (by (with_reducible repeat (first | apply Kd.R_alloc | apply Kd.R_drewN | apply Kd.R_drew)); exact HO_4.out))) (below_size (by repeat (first | (with_reducible first | exact HB.out | apply below_alloc | apply pw_below_drewN | apply below_drew1) | exact HB.out)))); have n2_ := Aside0.mk (below_step (by repeat (first | (with_reducible first | exact HB.out | apply below_alloc | apply pw_below_drewN | apply below_drew1) | exact HB.out)) hb); clear HO_4; clear HB; have HO_4 := n0_; have HO217 := n1_; have HB := n2_; clear n0_ n1_ n2_; clear hb ho14; obtain ⟨Ao16, co16, eo16⟩ := Kd.R_slice HO217.out; subst eo16) | ((with_reducible refine gate_builtin (b := .append) (xs := #[.tmp 44, .tmp 53]) rfl ?_); at_builtin; refine Kd.R_append_rows (Kd.int .u8) (w0 := w) w.heap.size rfl (.tmp 44) (.tmp 53) 49 5 (.int .u8 0) 1 rfl Try.underlying49 info5 rfl (by decide) (by omega) u4 x4_1 y215 _ _ _ (fun k_ => some k_ ≠ (.slice Ao16 y215.length co16 : Value).ownBlock) (fun _ => False) rfl rfl ?aO ?aR (fun _ _ h => h) (fun _ h => h.elim) ?aF ?aB ?aS ?aL ?_; (case aR => repeat (first | exact (Kd.R_reads' HO217.out).2.2 | (with_reducible refine Kd.C_alloc ?_ _) | (with_reducible refine Kd.C_drewN ?_ _) | (with_reducible refine Kd.C_drew ?_))); (case aB => exact (by repeat (first | (with_reducible first | exact HB.out | apply below_alloc | apply pw_below_drewN | apply below_drew1) | exact HB.out))); (case aF => exact (fun k_ hk => Kd.fresh' (Kd.R_lt (by (with_reducible repeat (first | apply Kd.R_alloc | apply Kd.R_drewN | apply Kd.R_drew)); exact HO217.out)) k_ hk)); (case aO => exact (by (with_reducible repeat (first | apply Kd.R_alloc | apply Kd.R_drewN | apply Kd.R_drew)); exact Kd.R_mono HO_4.out (fun _ hk => hk.2))); (case aS => exact (below_size (by repeat (first | (with_reducible first | exact HB.out | apply below_alloc | apply pw_below_drewN | apply below_drew1) | exact HB.out)))); (case aL => have := LMc12.out; omega); intro v219 w15 ho hb hg hat; rw [← Ny218.out] at ho; have n0_ := Aside0.mk (Kd.R_after (ok := (fun _ => True)) (by (with_reducible repeat (first | apply Kd.R_alloc | apply Kd.R_drewN | apply Kd.R_drew)); exact HO217.out) hg hat); have n1_ := Aside0.mk (hb); have n2_ := Aside0.mk (ho); clear HO217; clear HB; clear HO_4; have HO217 := n0_; have HB := n1_; have HO220 := n2_; clear n0_ n1_ n2_; clear ho hb hg hat))
                    go_roundg k2
                    case measure => have := HK1.out; have := HK2.out; omega
                    case rel => exact ⟨(y218), (wrap64 (x5_1 + 4)), (by first | rfl | (simp; done) | (simp [*]; done)), H', ⟨by have := HK1.out; have := HK2.out; omega⟩, ⟨by (with_reducible repeat (first | apply Kd.R_alloc | apply Kd.R_drewN | apply Kd.R_drew)); exact Kd.R_mono HO220.out (fun _ hk => trivial)⟩, ⟨by repeat (first | (with_reducible first | exact HB.out | apply below_alloc | apply pw_below_drewN | apply below_drew1) | exact HB.out)⟩⟩
                  · rw [if_neg c12] at H
                    exact absurd H (by simp)
          · rw [if_neg c4] at H
            have c4b0 : decide (x5_1 < (a0.size : Int)) = false := decide_eq_false c4
            clear c4
            simp only [Option.some.injEq, Prod.mk.injEq] at H
            obtain ⟨rfl, rfl⟩ := H
            have hcv17 := own_string (P := Try.prog) Try.underlying49 Try.underlying5 Try.underlying9 (Kd.own_of_R HO_4.out)
            go_wp2
            go_ret2
            exact ⟨by first | rfl | (simp [errW_none, errW_some] <;> rfl) | (simp [*, errW_none, errW_some] <;> rfl), by repeat (first | (with_reducible first | exact HB.out | apply below_alloc | apply pw_below_drewN | apply below_drew1) | exact HB.out)⟩
    · rw [if_neg c3] at H
      have c3b0 : (((a0.size : Int) % 4) == 0) = false := beq_eq_false_iff_ne.mpr c3
      have c3b1 : (((a0.size : Int) % 4) != 0) = true := bne_iff_ne.mpr c3
      simp only [Option.some.injEq, Prod.mk.injEq] at H
      obtain ⟨rfl, rfl⟩ := H
      go_enter Try.func44, Try.ntmps44
      go_wp2
      go_ret2
      exact ⟨by first | rfl | (simp [errW_none, errW_some] <;> rfl) | (simp [*, errW_none, errW_some] <;> rfl), by repeat (first | (with_reducible first | exact HB.out | apply below_alloc | apply pw_below_drewN | apply below_drew1) | exact HB.out)⟩

end Go.Proofs.Ytgicgdiklinomaa.X
