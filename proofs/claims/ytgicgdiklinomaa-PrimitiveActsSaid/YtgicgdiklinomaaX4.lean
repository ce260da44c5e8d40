-- Written by xprint.py, a program of this repo that leads the kit's print.py: Lean checks it.
import Derived.Test.YtgicgdiklinomaaX0
import Derived.Test.YtgicgdiklinomaaX3
namespace Go.Proofs.Ytgicgdiklinomaa.X
open Go.RowKit Go.Proofs.YtgicgdiklinomaaW.PrintWords Go.Proofs.YtgicgdiklinomaaW.PrintLast Go.Proofs.YtgicgdiklinomaaW.PrintMore
attribute [local go_sem] max2_int min2_int max_two min_two max_three min_three max_four min_four   -- for this text's walks alone
set_option linter.unusedVariables false
set_option linter.unusedSimpArgs false

/-! ### bits_Mul32: function 54 -/
def bits_Mul32.f (a0 : Int) (a1 : Int) : Option (Int × Int) := some (((IntKind.u64.wrap ((IntKind.u64.wrap (a0)) * (IntKind.u64.wrap (a1)))) / 4294967296) % 4294967296, (IntKind.u64.wrap ((IntKind.u64.wrap (a0)) * (IntKind.u64.wrap (a1)))) % 4294967296)
set_option maxHeartbeats 8000000 in
set_option maxRecDepth 100000 in
theorem bits_Mul32.calls (a0 : Int) (a1 : Int) (r1 : Int) (r2 : Int) (w : World) (h : bits_Mul32.f a0 a1 = some (r1, r2)) :
    Calls Try.prog 54 #[.int .u32 a0, .int .u32 a1] w fun e w' => e = .returned (.tuple #[.int .u32 r1, .int .u32 r2]) ∧ Drawn0 w w' := by
  have H : (some (((IntKind.u64.wrap ((IntKind.u64.wrap (a0)) * (IntKind.u64.wrap (a1)))) / 4294967296) % 4294967296, (IntKind.u64.wrap ((IntKind.u64.wrap (a0)) * (IntKind.u64.wrap (a1)))) % 4294967296)) = some (r1, r2) := h
  clear h
  simp only [Option.some.injEq, Prod.mk.injEq] at H
  obtain ⟨rfl, rfl⟩ := H
  go_enter Try.func54, Try.ntmps54
  go_wp2
  go_ret2
  exact ⟨by first | rfl | (simp; done) | (simp [*]; done), by repeat (first | exact Drawn0.refl _ | apply Drawn0.step)⟩

/-! ### bits_Mul64: function 55 -/
def bits_Mul64.f (a0 : Int) (a1 : Int) : Option (Int × Int) := some (IntKind.u64.wrap ((IntKind.u64.wrap ((IntKind.u64.wrap ((a0 / 4294967296) * (a1 / 4294967296))) + ((IntKind.u64.wrap ((IntKind.u64.wrap ((a0 / 4294967296) * (Go.bits .and .u64 a1 4294967295))) + ((IntKind.u64.wrap ((Go.bits .and .u64 a0 4294967295) * (Go.bits .and .u64 a1 4294967295))) / 4294967296))) / 4294967296))) + ((IntKind.u64.wrap ((Go.bits .and .u64 (IntKind.u64.wrap ((IntKind.u64.wrap ((a0 / 4294967296) * (Go.bits .and .u64 a1 4294967295))) + ((IntKind.u64.wrap ((Go.bits .and .u64 a0 4294967295) * (Go.bits .and .u64 a1 4294967295))) / 4294967296))) 4294967295) + (IntKind.u64.wrap ((Go.bits .and .u64 a0 4294967295) * (a1 / 4294967296))))) / 4294967296)), IntKind.u64.wrap (a0 * a1))
set_option maxHeartbeats 8000000 in
set_option maxRecDepth 100000 in
theorem bits_Mul64.calls (a0 : Int) (a1 : Int) (r1 : Int) (r2 : Int) (w : World) (h : bits_Mul64.f a0 a1 = some (r1, r2)) :
    Calls Try.prog 55 #[.int .u64 a0, .int .u64 a1] w fun e w' => e = .returned (.tuple #[.int .u64 r1, .int .u64 r2]) ∧ Drawn0 w w' := by
  have H : (some (IntKind.u64.wrap ((IntKind.u64.wrap ((IntKind.u64.wrap ((a0 / 4294967296) * (a1 / 4294967296))) + ((IntKind.u64.wrap ((IntKind.u64.wrap ((a0 / 4294967296) * (Go.bits .and .u64 a1 4294967295))) + ((IntKind.u64.wrap ((Go.bits .and .u64 a0 4294967295) * (Go.bits .and .u64 a1 4294967295))) / 4294967296))) / 4294967296))) + ((IntKind.u64.wrap ((Go.bits .and .u64 (IntKind.u64.wrap ((IntKind.u64.wrap ((a0 / 4294967296) * (Go.bits .and .u64 a1 4294967295))) + ((IntKind.u64.wrap ((Go.bits .and .u64 a0 4294967295) * (Go.bits .and .u64 a1 4294967295))) / 4294967296))) 4294967295) + (IntKind.u64.wrap ((Go.bits .and .u64 a0 4294967295) * (a1 / 4294967296))))) / 4294967296)), IntKind.u64.wrap (a0 * a1))) = some (r1, r2) := h
  clear h
  simp only [Option.some.injEq, Prod.mk.injEq] at H
  obtain ⟨rfl, rfl⟩ := H
  go_enter Try.func55, Try.ntmps55
  go_wp2
  go_ret2
  exact ⟨by first | rfl | (simp; done) | (simp [*]; done), by repeat (first | exact Drawn0.refl _ | apply Drawn0.step)⟩

/-! ### bits_Mul: function 45 -/
def bits_Mul.f (a0 : Int) (a1 : Int) : Option (Int × Int) := (bits_Mul64.f a0 a1).bind fun bt110 => (some (bt110.1, bt110.2))
set_option maxHeartbeats 8000000 in
set_option maxRecDepth 100000 in
theorem bits_Mul.calls (a0 : Int) (a1 : Int) (r1 : Int) (r2 : Int) (w : World) (h : bits_Mul.f a0 a1 = some (r1, r2)) :
    Calls Try.prog 45 #[.int .u64 a0, .int .u64 a1] w fun e w' => e = .returned (.tuple #[.int .u64 r1, .int .u64 r2]) ∧ Drawn0 w w' := by
  have H : ((bits_Mul64.f a0 a1).bind fun bt110 => (some (bt110.1, bt110.2))) = some (r1, r2) := h
  clear h
  replace H := Option.bind_eq_some_iff.mp H
  obtain ⟨⟨t110, t111⟩, A30, H⟩ := H
  replace H : (some (t110, t111)) = some (r1, r2) := H
  have A3 := Aside0.mk A30
  clear A30
  simp only [Option.some.injEq, Prod.mk.injEq] at H
  obtain ⟨rfl, rfl⟩ := H
  go_enter Try.func45, Try.ntmps45
  go_wp2_with (first | ((with_reducible refine gate_callee (f := 55) rfl ?_); refine goesL_ (some 25) rfl rfl Try.func55 (by kernel_rfl) rfl #[.int .u64 a0, .int .u64 a1] rfl (by (try simp only [List.map_toArray, List.map_cons, List.map_nil]); first | done | rfl | (simp only [List.length_drop, List.length_take]; rfl)) ?_; (with_reducible refine (bits_Mul64.calls a0 a1 t110 t111 _ A3.out).mono ?_); rintro e w' ⟨rfl, ⟨nd, rfl⟩⟩; refine ⟨_, rfl, ?_⟩))
  go_ret2
  exact ⟨by first | rfl | (simp; done) | (simp [*]; done), by repeat (first | exact Drawn0.refl _ | apply Drawn0.step)⟩

/-! ### stringslite_HasPrefix: function 56 -/
def stringslite_HasPrefix.f (a0 : ByteArray) (a1 : ByteArray) : Option (Bool) := if (a0.size : Int) ≥ (a1.size : Int) then (if 0 ≤ (a1.size : Int) then (if (a1.size : Int) ≤ (a0.size : Int) then (some ((a0.extract 0 ((a1.size : Int) : Int).toNat).toList == a1.toList)) else (none)) else (none)) else (some false)
set_option maxHeartbeats 8000000 in
set_option maxRecDepth 100000 in
theorem stringslite_HasPrefix.calls (a0 : ByteArray) (a1 : ByteArray) (r : Bool) (w : World) (h : stringslite_HasPrefix.f a0 a1 = some r) :
    Calls Try.prog 56 #[.string a0, .string a1] w fun e w' => e = .returned (.bool r) ∧ Drawn0 w w' := by
  have H : (if (a0.size : Int) ≥ (a1.size : Int) then (if 0 ≤ (a1.size : Int) then (if (a1.size : Int) ≤ (a0.size : Int) then (some ((a0.extract 0 ((a1.size : Int) : Int).toNat).toList == a1.toList)) else (none)) else (none)) else (some false)) = some r := h
  clear h
  by_cases c3 : (a0.size : Int) ≥ (a1.size : Int)
  · rw [if_pos c3] at H
    have c3b0 : decide ((a1.size : Int) ≤ (a0.size : Int)) = true := decide_eq_true c3
    have c3b1 : decide (a1.size ≤ a0.size) = true := decide_eq_true (Int.ofNat_le.mp c3)
    clear c3
    by_cases c4 : 0 ≤ (a1.size : Int)
    · rw [if_pos c4] at H
      have c4b0 := eq_true c4
      have c4b1 : decide (0 ≤ (a1.size : Int)) = true := decide_eq_true c4
      clear c4
      by_cases c5 : (a1.size : Int) ≤ (a0.size : Int)
      · rw [if_pos c5] at H
        have c5b0 := eq_true c5
        have c5b1 : decide ((a1.size : Int) ≤ (a0.size : Int)) = true := decide_eq_true c5
        clear c5
        obtain rfl := Option.some.inj H
        go_enter Try.func56, Try.ntmps56
        go_wp2
        go_ret
        exact ⟨by first | rfl | (simp; done) | (simp [*]; done), by repeat (first | exact Drawn0.refl _ | apply Drawn0.step)⟩
      · rw [if_neg c5] at H
        exact absurd H (by simp)
    · rw [if_neg c4] at H
      exact absurd H (by simp)
  · rw [if_neg c3] at H
    have c3b0 : decide ((a1.size : Int) ≤ (a0.size : Int)) = false := decide_eq_false c3
    have c3b1 : decide (a1.size ≤ a0.size) = false := decide_eq_false (fun h => c3 (Int.ofNat_le.mpr h))
    clear c3
    obtain rfl := Option.some.inj H
    go_enter Try.func56, Try.ntmps56
    go_wp2
    go_ret
    exact ⟨by first | rfl | (simp; done) | (simp [*]; done), by repeat (first | exact Drawn0.refl _ | apply Drawn0.step)⟩

/-! ### strings_HasPrefix: function 46 -/
def strings_HasPrefix.f (a0 : ByteArray) (a1 : ByteArray) : Option (Bool) := (stringslite_HasPrefix.f a0 a1).bind fun t112 => (some t112)
set_option maxHeartbeats 8000000 in
set_option maxRecDepth 100000 in
theorem strings_HasPrefix.calls (a0 : ByteArray) (a1 : ByteArray) (r : Bool) (w : World) (h : strings_HasPrefix.f a0 a1 = some r) :
    Calls Try.prog 46 #[.string a0, .string a1] w fun e w' => e = .returned (.bool r) ∧ Drawn0 w w' := by
  have H : ((stringslite_HasPrefix.f a0 a1).bind fun t112 => (some t112)) = some r := h
  clear h
  replace H := Option.bind_eq_some_iff.mp H
  obtain ⟨t112, A30, H⟩ := H
  replace H : (some t112) = some r := H
  have A3 := Aside0.mk A30
  clear A30
  obtain rfl := Option.some.inj H
  go_enter Try.func46, Try.ntmps46
  go_wp2_with (first | ((with_reducible refine gate_callee (f := 56) rfl ?_); refine goesL_ (some 7) rfl rfl Try.func56 (by kernel_rfl) rfl #[.string a0, .string a1] rfl (by (try simp only [List.map_toArray, List.map_cons, List.map_nil]); first | done | rfl | (simp only [List.length_drop, List.length_take]; rfl)) ?_; (with_reducible refine (stringslite_HasPrefix.calls a0 a1 t112 _ A3.out).mono ?_); rintro e w' ⟨rfl, ⟨nd, rfl⟩⟩; refine ⟨_, rfl, ?_⟩))
  go_ret
  exact ⟨by first | rfl | (simp; done) | (simp [*]; done), by repeat (first | exact Drawn0.refl _ | apply Drawn0.step)⟩

-- NOT PRINTED: function 60 (abi_NoEscape)

-- NOT PRINTED: function 57 (strings_Builder_copyCheck)

-- NOT PRINTED: function 61 (bytealg_MakeNoZero)

-- NOT PRINTED: function 58 (strings_Builder_grow)

-- NOT PRINTED: function 47 (strings_Builder_Grow)

-- NOT PRINTED: function 48 (strings_Builder_WriteString)

-- NOT PRINTED: function 49 (strings_Builder_Len)

-- NOT PRINTED: function 50 (strings_Builder_String)

/-! ### strings_Repeat: function 35 -/
def strings_Repeat.f (a0 : ByteArray) (a1 : Int) : Option ByteArray := if 0 ≤ a1 ∧ a1 ≤ 9223372036854775807 ∧ a0.size * a1.toNat ≤ 140737488355328 then some ⟨(Lib.repeatL a0.data.toList a1.toNat).toArray⟩ else none
theorem strings_Repeat.calls (a0 : ByteArray) (a1 : Int) (r : ByteArray) (w : World) (h : strings_Repeat.f a0 a1 = some r) :
    Calls Try.prog 35 #[.string a0, .int .i64 a1] w fun e w' => e = .returned (.string r) ∧ Below w.heap.size w w' := by
  unfold strings_Repeat.f at h
  by_cases hr : 0 ≤ a1 ∧ a1 ≤ 9223372036854775807 ∧ a0.size * a1.toNat ≤ 140737488355328
  · rw [if_pos hr] at h
    obtain ⟨h0, h1, h2⟩ := hr
    simp only [Option.some.injEq] at h
    subst h
    obtain ⟨m, rfl⟩ := Int.eq_ofNat_of_zero_le h0
    simp only [Int.toNat_natCast] at h2 ⊢
    exact Try.strings_Repeat a0 m w (by omega) h2
  · rw [if_neg hr] at h
    cases h

/-! ### primitive_form_lead: function 36 -/
def primitive_form_lead.f (a0_0 : ByteArray) (a0_1 : Int) : Option (Int) := some (Int.tmod (wrap64 (3 - (Int.tmod a0_1 3))) 3)
set_option maxHeartbeats 8000000 in
set_option maxRecDepth 100000 in
theorem primitive_form_lead.calls (a0_0 : ByteArray) (a0_1 : Int) (r : Int) (w : World) (h : primitive_form_lead.f a0_0 a0_1 = some r) :
    Calls Try.prog 36 #[.agg #[.string a0_0, .int .i64 a0_1]] w fun e w' => e = .returned (.int .i64 r) ∧ Below w.heap.size w w' := by
  have hu51 := Try.underlying51
  have HB := Aside0.mk (Below.refl w.heap.size w)
  have H : (some (Int.tmod (wrap64 (3 - (Int.tmod a0_1 3))) 3)) = some r := h
  clear h
  obtain rfl := Option.some.inj H
  go_enter Try.func36, Try.ntmps36
  go_wp2_with (first | ((with_reducible refine gate_dst (N := 1) rfl ?_); refine box_event ?hg (N := 1) ?hd (cs := #[.string a0_0, .int .i64 a0_1]) (t := 51) ?hr ?_; (case hd => rfl); (case hg => rfl); (case hr => first | (go_simp; done) | (go_simp; rfl)); intro gb113 hg w2 hbox hb; have n0_ := Aside0.mk (below_step (by repeat (first | (with_reducible first | exact HB.out | apply below_alloc | apply pw_below_drewN | apply below_drew1) | exact HB.out)) hb); have n1_ := Aside0.mk (hbox); have n2_ := Aside0.mk ((by rw [hg]; exact (below_size (by repeat (first | (with_reducible first | exact HB.out | apply below_alloc | apply pw_below_drewN | apply below_drew1) | exact HB.out))) : w.heap.size ≤ gb113)); have n3_ := Aside0.mk ((by rw [hg]; exact (below_size (by repeat (first | (with_reducible first | exact HB.out | apply below_alloc | apply pw_below_drewN | apply below_drew1) | exact HB.out))) : w.heap.size ≤ gb113)); clear HB; have HB := n0_; have BK113 := n1_; have GW113 := n2_; have GE113 := n3_; clear n0_ n1_ n2_ n3_; clear hb hbox hg; have hcz3_0 : w2.cell? ⟨gb113, 0, none⟩ = some (.string a0_0) := (blk_cell BK113.out 0).trans rfl; have hcz3_1 : w2.cell? ⟨gb113, 1, none⟩ = some (.int .i64 a0_1) := (blk_cell BK113.out 1).trans rfl; have hfz3_0 := blk_frozen BK113.out 0; have hfz3_1 := blk_frozen BK113.out 1))
  go_ret
  exact ⟨by first | rfl | (simp [errW_none, errW_some] <;> rfl) | (simp [*, errW_none, errW_some] <;> rfl), by repeat (first | (with_reducible first | exact HB.out | apply below_alloc | apply pw_below_drewN | apply below_drew1 | refine below_set ?_ GE113.out) | exact HB.out)⟩

/-! ### primitive_Encode: function 10 -/
def primitive_Encode.f (k : Nat) (a0_0 : Int) (a0_1 : ByteArray) : Option (ByteArray × Int) :=
  if formOk a0_0 = true then (if (a0_1.size : Int) = formRaw a0_0 then (primitive_form_lead.f (formCode a0_0) (formRaw a0_0)).bind fun l => (strings_Repeat.f ⟨#[0]⟩ l).bind fun z =>
    (if z.size + a0_1.size ≤ 9223372036854775807 then (base64_Encode.f k (z ++ a0_1)).bind fun b => (if 0 ≤ l ∧ l ≤ (b.1.size : Int) ∧ (formCode a0_0).size + (b.1.extract l.toNat b.1.size).size ≤ 9223372036854775807 then some (formCode a0_0 ++ b.1.extract l.toNat b.1.size, 0) else none) else none)
    else some (⟨#[]⟩, 8)) else some (⟨#[]⟩, 7)
theorem primitive_Encode.mono : ∀ a0 a1 k, LeO (primitive_Encode.f k a0 a1) (primitive_Encode.f (k + 1) a0 a1) := by
  intro a0 a1 k
  unfold primitive_Encode.f
  repeat' first
      | (with_reducible exact base64_Encode.mono _ _)
      | (with_reducible exact LeO.refl _)
      | (with_reducible refine LeO.ite ?_ ?_)
      | (with_reducible refine LeO.bind ?_ (fun _ => ?_))
set_option maxHeartbeats 4000000 in
set_option maxRecDepth 100000 in
theorem primitive_Encode.callsA (k : Nat) (a0_0 : Int) (a0_1 : ByteArray) (w : World) (s : ByteArray) (n : Int) (ok : Bool) (l : Int) (z b : ByteArray) (be : Int) (R : Ending → World → Prop)
    (hrun : ok = true → (a0_1.size : Int) = n → primitive_form_lead.f s n = some l ∧ strings_Repeat.f ⟨#[0]⟩ l = some z ∧ z.size + a0_1.size ≤ 9223372036854775807 ∧ base64_Encode.f k (z ++ a0_1) = some (b, be) ∧ 0 ≤ l ∧ l ≤ (b.size : Int) ∧ s.size + (b.extract l.toNat b.size).size ≤ 9223372036854775807)
    (hyes : ok = true → (a0_1.size : Int) = n → ∀ w', Below w.heap.size w w' → R (.returned (.tuple #[.string (s ++ b.extract l.toNat b.size), .int .i64 0])) w')
    (he8 : ok = true → (a0_1.size : Int) ≠ n → ∀ w', Below w.heap.size w w' → R (.returned (.tuple #[.string ⟨#[]⟩, .int .i64 8])) w')
    (hs : formCode a0_0 = s) (hn : formRaw a0_0 = n) (hk : formOk a0_0 = ok)
    (hno : ok = false → ∀ w', Below w.heap.size w w' → R (.returned (.tuple #[.string ⟨#[]⟩, .int .i64 7])) w') :
    Calls Try.prog 10 #[.agg #[.int .i64 a0_0, .string a0_1]] w R := by
  have hl := fun (W : World) (b : Nat) (hb : W.heap[b]? = some (.map formsMap 8)) => forms_lookAt hb a0_0
  unfold formVal at hl
  rw [hs, hn, hk] at hl
  clear hs hn hk
  have HR := Aside0.mk hrun
  clear hrun
  have HN := Aside0.mk hno
  have HY := Aside0.mk hyes
  have HE8 := Aside0.mk he8
  clear hno hyes he8
  have e1 := hl ((w.alloc (.cells #[.int .i64 a0_0, .string a0_1] 29)).alloc (.map formsMap 8)) (w.heap.size + 1) (alloc_at _ _ (by simp))
  have e1d := hl ((w.alloc (.cells #[.int .i64 a0_0, .string a0_1] 29)).alloc (.map formsMap 8)).drew (w.heap.size + 1) (alloc_at (w.alloc (.cells #[.int .i64 a0_0, .string a0_1] 29)) _ (by simp))
  have e2 := hl (((w.alloc (.cells #[.int .i64 a0_0, .string a0_1] 29)).alloc (.cells #[.string ⟨#[]⟩, .int .i64 0] 51)).alloc (.map formsMap 8)).drew (w.heap.size + 1 + 1) (alloc_at ((w.alloc (.cells #[.int .i64 a0_0, .string a0_1] 29)).alloc (.cells #[.string ⟨#[]⟩, .int .i64 0] 51)) _ (by simp))
  have e3 := hl (((w.alloc (.cells #[.int .i64 a0_0, .string a0_1] 29)).alloc (.map formsMap 8)).alloc (.cells #[.string ⟨#[]⟩, .int .i64 0] 51)).drew (w.heap.size + 1) (alloc_old _ (alloc_at (w.alloc (.cells #[.int .i64 a0_0, .string a0_1] 29)) _ (by simp)))
  clear hl
  go_enter Try.func10, Try.ntmps10
  go_upto_region 1 with fail
  go_cut [4, 5] (fun s4 s5 wx => ∃ g : Nat, s4 = .pointer (some ⟨g, 0, none⟩) ∧ s5 = .bool ok ∧ w.heap.size < g ∧ wx.heap[g]? = some (.cells #[.string s, .int .i64 n] 51 (0, 0)) ∧ wx.heap[w.heap.size]? = some (.cells #[.int .i64 a0_0, .string a0_1] 29 (0, 0)) ∧ Below w.heap.size w wx)
  case first =>
    go_region_with (first | (go_at_call 33; refine (forms_any _).mono ?_; rintro e w' ⟨rfl, rfl⟩))
    all_goals
      go_wp2_with fail
      go_meet
      refine ⟨_, rfl, rfl, by omega, ?_, ?_, ?_⟩
      · first | exact alloc_at _ _ (by simp) | exact alloc_old _ (alloc_at _ _ (by simp)) | exact alloc_at ((w.alloc _).alloc _) _ (by simp) | exact alloc_old _ (alloc_at (w.alloc _) _ (by simp))
      · first | exact alloc_old _ (alloc_old _ (alloc_at _ _ rfl)) | exact alloc_old (w := (w.alloc _).alloc _) _ (alloc_old _ (alloc_at _ _ rfl))
      · repeat (first | exact Below.refl _ _ | apply below_alloc | apply pw_below_drewN | apply below_drew1)
  case rest =>
    obtain ⟨g, rfl, rfl, hg, h4, h1, hB⟩ := hcut
    have c41 := cell_of wc h4 (i := 1) rfl
    have c40 := cell_of wc h4 (i := 0) rfl
    have c11 := cell_of wc h1 (i := 1) rfl
    cases ok with
    | false =>
      go_wp2_with fail
      exact HN.out trivial _ hB
    | true =>
      by_cases hsz : (a0_1.size : Int) = n
      · have HSZ := Aside0.mk hsz
        have b0 : ((a0_1.size : Int) != n) = false := bne_eq_false_iff_eq.mpr hsz
        clear hsz
        obtain ⟨hL, hZ, hzs, hE, hl0, hl1, hbs⟩ := HR.out rfl HSZ.out
        have HLL := Aside0.mk hL
        have HZZ := Aside0.mk hZ
        have HEE := Aside0.mk hE
        have z0 : (9223372036854775807 < z.size + a0_1.size) = False := eq_false (by omega)
        clear hL hZ hE e1 e1d e2 e3
        have HB := Aside0.mk hB
        have hg1 := (Array.getElem?_eq_some_iff.1 h4).1
        have hw1 : w.heap.size < wc.heap.size := (Array.getElem?_eq_some_iff.1 h1).1
        have HSS := Aside0.mk (show ∀ w' : World, Below wc.heap.size wc w' → (w'.cell? ⟨g, 0, none⟩ = some (.string s) ∧ w'.cell? ⟨g, 1, none⟩ = some (.int .i64 n) ∧ w'.cell? ⟨w.heap.size, 1, none⟩ = some (.string a0_1) ∧ Below wc.heap.size wc w') from fun w' hb =>
          ⟨(hb.cell (p := ⟨g, 0, none⟩) hg1).trans c40, (hb.cell (p := ⟨g, 1, none⟩) hg1).trans c41, (hb.cell (p := ⟨w.heap.size, 1, none⟩) hw1).trans c11, hb⟩)
        go_upto_region 6 with fail
        go_cut [6, 7] (fun s6 s7 wx => s6 = .string b ∧ s7 = .int .i64 be ∧ wx.heap[g]? = some (.cells #[.string s, .int .i64 n] 51 (0, 0)) ∧ Below w.heap.size w wx)
        case first =>
          go_region_held3 (fun w' => w'.cell? ⟨g, 0, none⟩ = some (.string s) ∧ w'.cell? ⟨g, 1, none⟩ = some (.int .i64 n) ∧ w'.cell? ⟨w.heap.size, 1, none⟩ = some (.string a0_1) ∧ Below wc.heap.size wc w') ((refine HSS.out _ ?_; go_split_ands; first | assumption | exact (Below.refl _ _).drew | (refine Below.drew ?_; assumption) | (refine Below.trans ?_ (Below.mono hb0 ?_); assumption; exact Below.size (show Below wc.heap.size wc _ by assumption)) | (refine Below.trans ?_ (Below.mono hb1 ?_); assumption; exact Below.size (show Below wc.heap.size wc _ by assumption)) | (refine Below.trans ?_ (Below.mono hb2 ?_); assumption; exact Below.size (show Below wc.heap.size wc _ by assumption))))
            (first
              | (go_at_call 36; refine (primitive_form_lead.calls s n l _ HLL.out).mono ?_; rintro e w' ⟨rfl, hb0⟩)
              | (go_at_call 35; refine (strings_Repeat.calls _ l z _ HZZ.out).mono ?_; rintro e w' ⟨rfl, hb1⟩)
              | (go_at_call 34; refine (base64_Encode.calls k _ b be _ HEE.out).mono ?_; rintro e w' ⟨rfl, hb2⟩))
          all_goals
            go_wp2_with fail
            go_meet
            go_split_ands
            exact ⟨rfl, rfl, below_old (B := wc.heap.size) (w := wc) (by assumption) h4 hg1, HB.out.trans (Below.mono (B := wc.heap.size) (by assumption) HB.out.size)⟩
        case rest =>
          obtain ⟨rfl, rfl, h4', hB'⟩ := hcut
          have d40 := cell_of wc h4' (i := 0) rfl
          have d41 := cell_of wc h4' (i := 1) rfl
          have HB' := Aside0.mk hB'
          have hg2 := (Array.getElem?_eq_some_iff.1 h4').1
          have HST := Aside0.mk (show ∀ w' : World, Below wc.heap.size wc w' → (w'.cell? ⟨g, 0, none⟩ = some (.string s) ∧ w'.cell? ⟨g, 1, none⟩ = some (.int .i64 n) ∧ Below wc.heap.size wc w') from fun w' hb =>
            ⟨(hb.cell (p := ⟨g, 0, none⟩) hg2).trans d40, (hb.cell (p := ⟨g, 1, none⟩) hg2).trans d41, hb⟩)
          have l0 : (0 ≤ l) = True := eq_true hl0
          have l1 : (l ≤ (b.size : Int)) = True := eq_true hl1
          have l2 : (9223372036854775807 < s.size + (b.size - l.toNat)) = False := eq_false (by rw [ByteArray.size_extract] at hbs; omega)
          go_wp2_with fail
          go_region_held3 (fun w' => w'.cell? ⟨g, 0, none⟩ = some (.string s) ∧ w'.cell? ⟨g, 1, none⟩ = some (.int .i64 n) ∧ Below wc.heap.size wc w') ((refine HST.out _ ?_; go_split_ands; first | assumption | exact (Below.refl _ _).drew | (refine Below.drew ?_; assumption) | (refine Below.trans ?_ (Below.mono hb0 ?_); assumption; exact Below.size (show Below wc.heap.size wc _ by assumption))))
            (first | (go_at_call 36; refine (primitive_form_lead.calls s n l _ HLL.out).mono ?_; rintro e w' ⟨rfl, hb0⟩))
          all_goals
            go_split_ands
            go_wp2_with fail
            refine HY.out trivial HSZ.out _ (HB'.out.trans (Below.mono (B := wc.heap.size) (by assumption) HB'.out.size))
      · have b0 : ((a0_1.size : Int) != n) = true := bne_iff_ne.mpr hsz
        go_wp2_with fail
        exact HE8.out trivial hsz _ hB
theorem primitive_Encode.calls (k : Nat) (a0_0 : Int) (a0_1 : ByteArray) (r1 : ByteArray) (r2 : Int) (w : World) (h : primitive_Encode.f k a0_0 a0_1 = some (r1, r2)) :
    Calls Try.prog 10 #[.agg #[.int .i64 a0_0, .string a0_1]] w fun e w' => e = .returned (.tuple #[.string r1, .int .i64 r2]) ∧ Below w.heap.size w w' := by
  unfold primitive_Encode.f at h
  by_cases ho : formOk a0_0 = true
  · rw [if_pos ho] at h
    by_cases hs : (a0_1.size : Int) = formRaw a0_0
    · rw [if_pos hs] at h
      obtain ⟨l, hl, h⟩ := Option.bind_eq_some_iff.mp h
      obtain ⟨z, hz, h⟩ := Option.bind_eq_some_iff.mp h
      split at h
      · rename_i hzs
        obtain ⟨⟨b, be⟩, hb, h⟩ := Option.bind_eq_some_iff.mp h
        dsimp only at h
        split at h
        · rename_i hc
          simp only [Option.some.injEq, Prod.mk.injEq] at h
          obtain ⟨rfl, rfl⟩ := h
          exact primitive_Encode.callsA k a0_0 a0_1 w _ _ true l z b be _ (fun _ _ => ⟨hl, hz, hzs, hb, hc⟩) (fun _ _ w' hw => ⟨rfl, hw⟩) (fun _ hne => absurd hs hne) rfl rfl ho (fun h => by cases h)
        · cases h
      · cases h
    · rw [if_neg hs] at h
      simp only [Option.some.injEq, Prod.mk.injEq] at h
      obtain ⟨rfl, rfl⟩ := h
      exact primitive_Encode.callsA k a0_0 a0_1 w _ _ true 0 ⟨#[]⟩ ⟨#[]⟩ 0 _ (fun _ he => absurd he hs) (fun _ he => absurd he hs) (fun _ _ w' hw => ⟨rfl, hw⟩) rfl rfl ho (fun h => by cases h)
  · rw [if_neg ho] at h
    simp only [Option.some.injEq, Prod.mk.injEq] at h
    obtain ⟨rfl, rfl⟩ := h
    have ho' : formOk a0_0 = false := by simpa using ho
    exact primitive_Encode.callsA k a0_0 a0_1 w _ _ false 0 ⟨#[]⟩ ⟨#[]⟩ 0 _ (fun h => by cases h) (fun h => by cases h) (fun h => by cases h) rfl rfl ho' (fun _ w' hw => ⟨rfl, hw⟩)

end Go.Proofs.Ytgicgdiklinomaa.X
