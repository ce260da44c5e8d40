-- Written by xprint.py, a program of this repo that leads the kit's print.py: Lean checks it.
import Derived.Test.YtgicgdiklinomaaX0
import Derived.Test.YtgicgdiklinomaaX3
import Derived.Test.YtgicgdiklinomaaX6
import Derived.Test.YtgicgdiklinomaaX9
import Derived.Test.YtgicgdiklinomaaX11
import Derived.Test.YtgicgdiklinomaaX12
namespace Go.Proofs.Ytgicgdiklinomaa.X
open Go.RowKit Go.Proofs.YtgicgdiklinomaaW.PrintWords Go.Proofs.YtgicgdiklinomaaW.PrintLast Go.Proofs.YtgicgdiklinomaaW.PrintMore
attribute [local go_sem] max2_int min2_int max_two min_two max_three min_three max_four min_four   -- for this text's walks alone
set_option linter.unusedVariables false
set_option linter.unusedSimpArgs false

/-! ### primitive_Binary: function 16 -/
def primitive_Binary.f (k : Nat) (a0 : ByteArray) : Option (ByteArray × Int) := (base64_Decode.f k a0).bind fun bt179 => (some (bt179.1, bt179.2))
theorem primitive_Binary.mono : ∀ a0 k, LeO (primitive_Binary.f k a0) (primitive_Binary.f (k + 1) a0) := by
  intro a0 k
  unfold primitive_Binary.f
  repeat' first
      | (with_reducible exact base64_Decode.mono _ _)
      | (with_reducible exact LeO.refl _)
      | (with_reducible exact LeO.none _)
      | (with_reducible refine LeO.ite ?_ ?_)
      | (with_reducible refine LeO.bind ?_ (fun _ => ?_))
      | exact base64_Decode.mono _ _
      | exact LeO.none _
      | refine LeO.ite ?_ ?_
      | refine LeO.bind ?_ (fun _ => ?_)
set_option maxHeartbeats 8000000 in
set_option maxRecDepth 100000 in
theorem primitive_Binary.calls (k : Nat) (a0 : ByteArray) (r1 : ByteArray) (r2 : Int) (w : World) (h : primitive_Binary.f k a0 = some (r1, r2)) :
    Calls Try.prog 16 #[.string a0] w fun e w' => e = .returned (.tuple #[.string r1, .int .i64 r2]) ∧ Below w.heap.size w w' := by
  have HB := Aside0.mk (Below.refl w.heap.size w)
  have H : ((base64_Decode.f k a0).bind fun bt179 => (some (bt179.1, bt179.2))) = some (r1, r2) := h
  clear h
  replace H := Option.bind_eq_some_iff.mp H
  obtain ⟨⟨t179, t180⟩, A20, H⟩ := H
  replace H : (some (t179, t180)) = some (r1, r2) := H
  have A2 := Aside0.mk A20
  clear A20
  simp only [Option.some.injEq, Prod.mk.injEq] at H
  obtain ⟨rfl, rfl⟩ := H
  go_enter Try.func16, Try.ntmps16
  go_wp2_with (first | ((with_reducible refine gate_callee (f := 40) rfl ?_); refine goesL_ (some 5) rfl rfl Try.func40 (by kernel_rfl) rfl #[.string a0] rfl (by (try simp only [List.map_toArray, List.map_cons, List.map_nil]); first | done | rfl | (simp only [List.length_drop, List.length_take]; rfl)) ?_; (with_reducible refine (base64_Decode.calls k a0 t179 t180 _ A2.out).mono ?_); rintro e w3 ⟨rfl, hb⟩; refine ⟨_, rfl, ?_⟩; have n0_ := Aside0.mk (below_step (by repeat (first | (with_reducible first | exact HB.out | apply below_alloc | apply pw_below_drewN | apply below_drew1) | exact HB.out)) hb); clear HB; have HB := n0_; clear n0_; (try clear hb); (try clear hb2); (try clear hk); (try clear hi)))
  go_ret2
  exact ⟨by first | rfl | (simp [errW_none, errW_some] <;> rfl) | (simp [*, errW_none, errW_some] <;> rfl), by repeat (first | (with_reducible first | exact HB.out | apply below_alloc | apply pw_below_drewN | apply below_drew1) | exact HB.out)⟩

/-! ### primitive_Text: function 17 -/
def primitive_Text.f (k : Nat) (a0 : ByteArray) : Option (ByteArray × Int) := (base64_Encode.f k a0).bind fun bt181 => (some (bt181.1, bt181.2))
theorem primitive_Text.mono : ∀ a0 k, LeO (primitive_Text.f k a0) (primitive_Text.f (k + 1) a0) := by
  intro a0 k
  unfold primitive_Text.f
  repeat' first
      | (with_reducible exact base64_Encode.mono _ _)
      | (with_reducible exact LeO.refl _)
      | (with_reducible exact LeO.none _)
      | (with_reducible refine LeO.ite ?_ ?_)
      | (with_reducible refine LeO.bind ?_ (fun _ => ?_))
      | exact base64_Encode.mono _ _
      | exact LeO.none _
      | refine LeO.ite ?_ ?_
      | refine LeO.bind ?_ (fun _ => ?_)
set_option maxHeartbeats 8000000 in
set_option maxRecDepth 100000 in
theorem primitive_Text.calls (k : Nat) (a0 : ByteArray) (r1 : ByteArray) (r2 : Int) (w : World) (h : primitive_Text.f k a0 = some (r1, r2)) :
    Calls Try.prog 17 #[.string a0] w fun e w' => e = .returned (.tuple #[.string r1, .int .i64 r2]) ∧ Below w.heap.size w w' := by
  have HB := Aside0.mk (Below.refl w.heap.size w)
  have H : ((base64_Encode.f k a0).bind fun bt181 => (some (bt181.1, bt181.2))) = some (r1, r2) := h
  clear h
  replace H := Option.bind_eq_some_iff.mp H
  obtain ⟨⟨t181, t182⟩, A20, H⟩ := H
  replace H : (some (t181, t182)) = some (r1, r2) := H
  have A2 := Aside0.mk A20
  clear A20
  simp only [Option.some.injEq, Prod.mk.injEq] at H
  obtain ⟨rfl, rfl⟩ := H
  go_enter Try.func17, Try.ntmps17
  go_wp2_with (first | ((with_reducible refine gate_callee (f := 34) rfl ?_); refine goesL_ (some 5) rfl rfl Try.func34 (by kernel_rfl) rfl #[.string a0] rfl (by (try simp only [List.map_toArray, List.map_cons, List.map_nil]); first | done | rfl | (simp only [List.length_drop, List.length_take]; rfl)) ?_; (with_reducible refine (base64_Encode.calls k a0 t181 t182 _ A2.out).mono ?_); rintro e w3 ⟨rfl, hb⟩; refine ⟨_, rfl, ?_⟩; have n0_ := Aside0.mk (below_step (by repeat (first | (with_reducible first | exact HB.out | apply below_alloc | apply pw_below_drewN | apply below_drew1) | exact HB.out)) hb); clear HB; have HB := n0_; clear n0_; (try clear hb); (try clear hb2); (try clear hk); (try clear hi)))
  go_ret2
  exact ⟨by first | rfl | (simp [errW_none, errW_some] <;> rfl) | (simp [*, errW_none, errW_some] <;> rfl), by repeat (first | (with_reducible first | exact HB.out | apply below_alloc | apply pw_below_drewN | apply below_drew1) | exact HB.out)⟩

/-! ### primitive_Size: function 18 -/
def formSize (k : Int) : Int := (formCode k).size + (formRaw k + (3 - formRaw k % 3) % 3) / 3 * 4 - (3 - formRaw k % 3) % 3
def primitive_Size.f (a0 : Int) : Option Int := if formOk a0 = true then primitive_form_size.f (formCode a0) (formRaw a0) else some 0
set_option maxHeartbeats 2000000 in
theorem primitive_Size.calls (a0 : Int) (r : Int) (w : World) (h : primitive_Size.f a0 = some r) :
    Calls Try.prog 18 #[.int .i64 a0] w fun e w' => e = .returned (.int .i64 r) ∧ Below w.heap.size w w' := by
  unfold primitive_Size.f at h
  have hl := forms_look w a0
  unfold formVal at hl
  obtain ⟨s, hs⟩ : ∃ s, formCode a0 = s := ⟨_, rfl⟩
  obtain ⟨n, hn⟩ : ∃ n, formRaw a0 = n := ⟨_, rfl⟩
  rw [hs, hn] at hl h
  clear hs hn
  by_cases hk : formOk a0 = true
  · rw [if_pos hk] at h
    rw [hk] at hl
    have H := Aside0.mk h
    clear h
    go_enter Try.func18, Try.ntmps18
    go_wp2_with fail
    refine (forms_any _).mono ?_
    rintro e w' ⟨rfl, rfl⟩
    go_wp2_with fail
    refine (primitive_form_size.calls s n r _ H.out).mono ?_
    rintro e w2 ⟨rfl, hb⟩
    go_wp2_with fail
    go_ret
    exact ⟨rfl, (((Below.refl _ _).alloc (Nat.le_refl _) _).alloc (by simp) _).trans (hb.mono (by simp; omega))⟩
  · rw [if_neg hk] at h
    have hk' : formOk a0 = false := by simpa using hk
    rw [hk'] at hl
    simp only [Option.some.injEq] at h
    subst h
    clear hk hk'
    go_enter Try.func18, Try.ntmps18
    go_wp2_with (go_at_call 33; refine (forms_any _).mono ?_; rintro e w' ⟨rfl, rfl⟩)
    go_ret
    exact ⟨rfl, ((Below.refl _ _).alloc (Nat.le_refl _) _).alloc (by simp) _⟩

/-! ### primitive_Open: function 21 -/
def primitive_Open.f (k : Nat) (a0 : Int) (a1 : ByteArray) : Option (ByteArray × Int) := (primitive_Decode.f k a1).bind fun bt183 => (if bt183.2.2.2 = 0 then (if bt183.1 = a0 then (if bt183.2.2.1 = (a1.size : Int) then (some (bt183.2.1, 0)) else (some ((⟨#[]⟩ : ByteArray), 8))) else (some ((⟨#[]⟩ : ByteArray), 7))) else (some ((⟨#[]⟩ : ByteArray), bt183.2.2.2)))
theorem primitive_Open.mono : ∀ a0 a1 k, LeO (primitive_Open.f k a0 a1) (primitive_Open.f (k + 1) a0 a1) := by
  intro a0 a1 k
  unfold primitive_Open.f
  repeat' first
      | (with_reducible exact primitive_Decode.mono _ _)
      | (with_reducible exact LeO.refl _)
      | (with_reducible exact LeO.none _)
      | (with_reducible refine LeO.ite ?_ ?_)
      | (with_reducible refine LeO.bind ?_ (fun _ => ?_))
      | exact primitive_Decode.mono _ _
      | exact LeO.none _
      | refine LeO.ite ?_ ?_
      | refine LeO.bind ?_ (fun _ => ?_)
set_option maxHeartbeats 8000000 in
set_option maxRecDepth 100000 in
theorem primitive_Open.calls (k : Nat) (a0 : Int) (a1 : ByteArray) (r1 : ByteArray) (r2 : Int) (w : World) (h : primitive_Open.f k a0 a1 = some (r1, r2)) :
    Calls Try.prog 21 #[.int .i64 a0, .string a1] w fun e w' => e = .returned (.tuple #[.string r1, .int .i64 r2]) ∧ Below w.heap.size w w' := by
  have hu29 := Try.underlying29
  have HB := Aside0.mk (Below.refl w.heap.size w)
  have H : ((primitive_Decode.f k a1).bind fun bt183 => (if bt183.2.2.2 = 0 then (if bt183.1 = a0 then (if bt183.2.2.1 = (a1.size : Int) then (some (bt183.2.1, 0)) else (some ((⟨#[]⟩ : ByteArray), 8))) else (some ((⟨#[]⟩ : ByteArray), 7))) else (some ((⟨#[]⟩ : ByteArray), bt183.2.2.2)))) = some (r1, r2) := h
  clear h
  replace H := Option.bind_eq_some_iff.mp H
  obtain ⟨⟨t183, t184, t185, t186⟩, A30, H⟩ := H
  replace H : (if t186 = 0 then (if t183 = a0 then (if t185 = (a1.size : Int) then (some (t184, 0)) else (some ((⟨#[]⟩ : ByteArray), 8))) else (some ((⟨#[]⟩ : ByteArray), 7))) else (some ((⟨#[]⟩ : ByteArray), t186))) = some (r1, r2) := H
  have A3 := Aside0.mk A30
  clear A30
  by_cases c4 : t186 = 0
  · rw [if_pos c4] at H
    have c4b0 : (t186 == 0) = true := beq_iff_eq.mpr c4
    have c4b1 : (t186 != 0) = false := bne_eq_false_iff_eq.mpr c4
    clear c4
    by_cases c5 : t183 = a0
    · rw [if_pos c5] at H
      have c5b0 : (t183 == a0) = true := beq_iff_eq.mpr c5
      have c5b1 : (t183 != a0) = false := bne_eq_false_iff_eq.mpr c5
      clear c5
      by_cases c6 : t185 = (a1.size : Int)
      · rw [if_pos c6] at H
        have c6b0 : (t185 == (a1.size : Int)) = true := beq_iff_eq.mpr c6
        have c6b1 : (t185 != (a1.size : Int)) = false := bne_eq_false_iff_eq.mpr c6
        clear c6
        simp only [Option.some.injEq, Prod.mk.injEq] at H
        obtain ⟨rfl, rfl⟩ := H
        go_enter Try.func21, Try.ntmps21
        go_wp2_with (first | ((with_reducible refine gate_callee (f := 14) rfl ?_); refine goesL_ (some 11) rfl rfl Try.func14 (by kernel_rfl) rfl #[.string a1] rfl (by (try simp only [List.map_toArray, List.map_cons, List.map_nil]); first | done | rfl | (simp only [List.length_drop, List.length_take]; rfl)) ?_; (with_reducible refine (primitive_Decode.calls k a1 t183 t184 t185 t186 _ A3.out).mono ?_); rintro e w7 ⟨rfl, hb⟩; refine ⟨_, rfl, ?_⟩; have n0_ := Aside0.mk (below_step (by repeat (first | (with_reducible first | exact HB.out | apply below_alloc | apply pw_below_drewN | apply below_drew1) | exact HB.out)) hb); clear HB; have HB := n0_; clear n0_; (try clear hb); (try clear hb2); (try clear hk); (try clear hi)) | ((with_reducible refine gate_dst (N := 6) rfl ?_); refine box_event ?hg (N := 6) ?hd (cs := #[.int .i64 0, .string (⟨#[]⟩ : ByteArray)]) (t := 29) ?hr ?_; (case hd => rfl); (case hg => rfl); (case hr => first | (go_simp; done) | (go_simp; rfl)); intro gb187 hg w8 hbox hb; have n0_ := Aside0.mk (below_step (by repeat (first | (with_reducible first | exact HB.out | apply below_alloc | apply pw_below_drewN | apply below_drew1) | exact HB.out)) hb); have n1_ := Aside0.mk (hbox); have n2_ := Aside0.mk ((by rw [hg]; exact (below_size (by repeat (first | (with_reducible first | exact HB.out | apply below_alloc | apply pw_below_drewN | apply below_drew1) | exact HB.out))) : w.heap.size ≤ gb187)); have n3_ := Aside0.mk ((by rw [hg]; exact (below_size (by repeat (first | (with_reducible first | exact HB.out | apply below_alloc | apply pw_below_drewN | apply below_drew1) | exact HB.out))) : w.heap.size ≤ gb187)); clear HB; have HB := n0_; have BK187 := n1_; have GW187 := n2_; have GE187 := n3_; clear n0_ n1_ n2_ n3_; clear hb hbox hg; have hcz9_0 : w8.cell? ⟨gb187, 0, none⟩ = some (.int .i64 0) := (blk_cell BK187.out 0).trans rfl; have hcz9_1 : w8.cell? ⟨gb187, 1, none⟩ = some (.string (⟨#[]⟩ : ByteArray)) := (blk_cell BK187.out 1).trans rfl; have hfz9_0 := blk_frozen BK187.out 0; have hfz9_1 := blk_frozen BK187.out 1))
        go_ret2
        exact ⟨by first | rfl | (simp [errW_none, errW_some] <;> rfl) | (simp [*, errW_none, errW_some] <;> rfl), by repeat (first | (with_reducible first | exact HB.out | apply below_alloc | apply pw_below_drewN | apply below_drew1 | refine below_set ?_ GE187.out) | exact HB.out)⟩
      · rw [if_neg c6] at H
        have c6b0 : (t185 == (a1.size : Int)) = false := beq_eq_false_iff_ne.mpr c6
        have c6b1 : (t185 != (a1.size : Int)) = true := bne_iff_ne.mpr c6
        simp only [Option.some.injEq, Prod.mk.injEq] at H
        obtain ⟨rfl, rfl⟩ := H
        go_enter Try.func21, Try.ntmps21
        go_wp2_with (first | ((with_reducible refine gate_callee (f := 14) rfl ?_); refine goesL_ (some 11) rfl rfl Try.func14 (by kernel_rfl) rfl #[.string a1] rfl (by (try simp only [List.map_toArray, List.map_cons, List.map_nil]); first | done | rfl | (simp only [List.length_drop, List.length_take]; rfl)) ?_; (with_reducible refine (primitive_Decode.calls k a1 t183 t184 t185 t186 _ A3.out).mono ?_); rintro e w10 ⟨rfl, hb⟩; refine ⟨_, rfl, ?_⟩; have n0_ := Aside0.mk (below_step (by repeat (first | (with_reducible first | exact HB.out | apply below_alloc | apply pw_below_drewN | apply below_drew1) | exact HB.out)) hb); clear HB; have HB := n0_; clear n0_; (try clear hb); (try clear hb2); (try clear hk); (try clear hi)) | ((with_reducible refine gate_dst (N := 6) rfl ?_); refine box_event ?hg (N := 6) ?hd (cs := #[.int .i64 0, .string (⟨#[]⟩ : ByteArray)]) (t := 29) ?hr ?_; (case hd => rfl); (case hg => rfl); (case hr => first | (go_simp; done) | (go_simp; rfl)); intro gb187 hg w11 hbox hb; have n0_ := Aside0.mk (below_step (by repeat (first | (with_reducible first | exact HB.out | apply below_alloc | apply pw_below_drewN | apply below_drew1) | exact HB.out)) hb); have n1_ := Aside0.mk (hbox); have n2_ := Aside0.mk ((by rw [hg]; exact (below_size (by repeat (first | (with_reducible first | exact HB.out | apply below_alloc | apply pw_below_drewN | apply below_drew1) | exact HB.out))) : w.heap.size ≤ gb187)); have n3_ := Aside0.mk ((by rw [hg]; exact (below_size (by repeat (first | (with_reducible first | exact HB.out | apply below_alloc | apply pw_below_drewN | apply below_drew1) | exact HB.out))) : w.heap.size ≤ gb187)); clear HB; have HB := n0_; have BK187 := n1_; have GW187 := n2_; have GE187 := n3_; clear n0_ n1_ n2_ n3_; clear hb hbox hg; have hcz12_0 : w11.cell? ⟨gb187, 0, none⟩ = some (.int .i64 0) := (blk_cell BK187.out 0).trans rfl; have hcz12_1 : w11.cell? ⟨gb187, 1, none⟩ = some (.string (⟨#[]⟩ : ByteArray)) := (blk_cell BK187.out 1).trans rfl; have hfz12_0 := blk_frozen BK187.out 0; have hfz12_1 := blk_frozen BK187.out 1))
        go_ret2
        exact ⟨by first | rfl | (simp [errW_none, errW_some] <;> rfl) | (simp [*, errW_none, errW_some] <;> rfl), by repeat (first | (with_reducible first | exact HB.out | apply below_alloc | apply pw_below_drewN | apply below_drew1 | refine below_set ?_ GE187.out) | exact HB.out)⟩
    · rw [if_neg c5] at H
      have c5b0 : (t183 == a0) = false := beq_eq_false_iff_ne.mpr c5
      have c5b1 : (t183 != a0) = true := bne_iff_ne.mpr c5
      simp only [Option.some.injEq, Prod.mk.injEq] at H
      obtain ⟨rfl, rfl⟩ := H
      go_enter Try.func21, Try.ntmps21
      go_wp2_with (first | ((with_reducible refine gate_callee (f := 14) rfl ?_); refine goesL_ (some 11) rfl rfl Try.func14 (by kernel_rfl) rfl #[.string a1] rfl (by (try simp only [List.map_toArray, List.map_cons, List.map_nil]); first | done | rfl | (simp only [List.length_drop, List.length_take]; rfl)) ?_; (with_reducible refine (primitive_Decode.calls k a1 t183 t184 t185 t186 _ A3.out).mono ?_); rintro e w13 ⟨rfl, hb⟩; refine ⟨_, rfl, ?_⟩; have n0_ := Aside0.mk (below_step (by repeat (first | (with_reducible first | exact HB.out | apply below_alloc | apply pw_below_drewN | apply below_drew1) | exact HB.out)) hb); clear HB; have HB := n0_; clear n0_; (try clear hb); (try clear hb2); (try clear hk); (try clear hi)) | ((with_reducible refine gate_dst (N := 6) rfl ?_); refine box_event ?hg (N := 6) ?hd (cs := #[.int .i64 0, .string (⟨#[]⟩ : ByteArray)]) (t := 29) ?hr ?_; (case hd => rfl); (case hg => rfl); (case hr => first | (go_simp; done) | (go_simp; rfl)); intro gb187 hg w14 hbox hb; have n0_ := Aside0.mk (below_step (by repeat (first | (with_reducible first | exact HB.out | apply below_alloc | apply pw_below_drewN | apply below_drew1) | exact HB.out)) hb); have n1_ := Aside0.mk (hbox); have n2_ := Aside0.mk ((by rw [hg]; exact (below_size (by repeat (first | (with_reducible first | exact HB.out | apply below_alloc | apply pw_below_drewN | apply below_drew1) | exact HB.out))) : w.heap.size ≤ gb187)); have n3_ := Aside0.mk ((by rw [hg]; exact (below_size (by repeat (first | (with_reducible first | exact HB.out | apply below_alloc | apply pw_below_drewN | apply below_drew1) | exact HB.out))) : w.heap.size ≤ gb187)); clear HB; have HB := n0_; have BK187 := n1_; have GW187 := n2_; have GE187 := n3_; clear n0_ n1_ n2_ n3_; clear hb hbox hg; have hcz15_0 : w14.cell? ⟨gb187, 0, none⟩ = some (.int .i64 0) := (blk_cell BK187.out 0).trans rfl; have hcz15_1 : w14.cell? ⟨gb187, 1, none⟩ = some (.string (⟨#[]⟩ : ByteArray)) := (blk_cell BK187.out 1).trans rfl; have hfz15_0 := blk_frozen BK187.out 0; have hfz15_1 := blk_frozen BK187.out 1))
      go_ret2
      exact ⟨by first | rfl | (simp [errW_none, errW_some] <;> rfl) | (simp [*, errW_none, errW_some] <;> rfl), by repeat (first | (with_reducible first | exact HB.out | apply below_alloc | apply pw_below_drewN | apply below_drew1 | refine below_set ?_ GE187.out) | exact HB.out)⟩
  · rw [if_neg c4] at H
    have c4b0 : (t186 == 0) = false := beq_eq_false_iff_ne.mpr c4
    have c4b1 : (t186 != 0) = true := bne_iff_ne.mpr c4
    simp only [Option.some.injEq, Prod.mk.injEq] at H
    obtain ⟨rfl, rfl⟩ := H
    go_enter Try.func21, Try.ntmps21
    go_wp2_with (first | ((with_reducible refine gate_callee (f := 14) rfl ?_); refine goesL_ (some 11) rfl rfl Try.func14 (by kernel_rfl) rfl #[.string a1] rfl (by (try simp only [List.map_toArray, List.map_cons, List.map_nil]); first | done | rfl | (simp only [List.length_drop, List.length_take]; rfl)) ?_; (with_reducible refine (primitive_Decode.calls k a1 t183 t184 t185 t186 _ A3.out).mono ?_); rintro e w16 ⟨rfl, hb⟩; refine ⟨_, rfl, ?_⟩; have n0_ := Aside0.mk (below_step (by repeat (first | (with_reducible first | exact HB.out | apply below_alloc | apply pw_below_drewN | apply below_drew1) | exact HB.out)) hb); clear HB; have HB := n0_; clear n0_; (try clear hb); (try clear hb2); (try clear hk); (try clear hi)) | ((with_reducible refine gate_dst (N := 6) rfl ?_); refine box_event ?hg (N := 6) ?hd (cs := #[.int .i64 0, .string (⟨#[]⟩ : ByteArray)]) (t := 29) ?hr ?_; (case hd => rfl); (case hg => rfl); (case hr => first | (go_simp; done) | (go_simp; rfl)); intro gb187 hg w17 hbox hb; have n0_ := Aside0.mk (below_step (by repeat (first | (with_reducible first | exact HB.out | apply below_alloc | apply pw_below_drewN | apply below_drew1) | exact HB.out)) hb); have n1_ := Aside0.mk (hbox); have n2_ := Aside0.mk ((by rw [hg]; exact (below_size (by repeat (first | (with_reducible first | exact HB.out | apply below_alloc | apply pw_below_drewN | apply below_drew1) | exact HB.out))) : w.heap.size ≤ gb187)); have n3_ := Aside0.mk ((by rw [hg]; exact (below_size (by repeat (first | (with_reducible first | exact HB.out | apply below_alloc | apply pw_below_drewN | apply below_drew1) | exact HB.out))) : w.heap.size ≤ gb187)); clear HB; have HB := n0_; have BK187 := n1_; have GW187 := n2_; have GE187 := n3_; clear n0_ n1_ n2_ n3_; clear hb hbox hg; have hcz18_0 : w17.cell? ⟨gb187, 0, none⟩ = some (.int .i64 0) := (blk_cell BK187.out 0).trans rfl; have hcz18_1 : w17.cell? ⟨gb187, 1, none⟩ = some (.string (⟨#[]⟩ : ByteArray)) := (blk_cell BK187.out 1).trans rfl; have hfz18_0 := blk_frozen BK187.out 0; have hfz18_1 := blk_frozen BK187.out 1))
    go_ret2
    exact ⟨by first | rfl | (simp [errW_none, errW_some] <;> rfl) | (simp [*, errW_none, errW_some] <;> rfl), by repeat (first | (with_reducible first | exact HB.out | apply below_alloc | apply pw_below_drewN | apply below_drew1 | refine below_set ?_ GE187.out) | exact HB.out)⟩

/-! ### keyeventref03_Code: function 29 -/
def keyeventref03_Code.f (a0 : Int) : Option (ByteArray × Bool) := if a0 < 1 then (some ((⟨#[]⟩ : ByteArray), false)) else (if a0 > 8 then (some ((⟨#[]⟩ : ByteArray), false)) else ((some (([(⟨#[]⟩ : ByteArray), (⟨#[69]⟩ : ByteArray), (⟨#[68]⟩ : ByteArray), (⟨#[66]⟩ : ByteArray), (⟨#[65]⟩ : ByteArray), (⟨#[48, 65]⟩ : ByteArray), (⟨#[77]⟩ : ByteArray), (⟨#[83]⟩ : ByteArray), (⟨#[49, 65, 65, 76]⟩ : ByteArray)] : List ByteArray) : List ByteArray)).bind fun y188 => (if 0 ≤ a0 then (if a0 < (y188.length : Int) then (some (rdOf ByteArray.empty y188 a0, true)) else (none)) else (none))))
set_option maxHeartbeats 8000000 in
set_option maxRecDepth 100000 in
theorem keyeventref03_Code.calls (a0 : Int) (r1 : ByteArray) (r2 : Bool) (w : World) (h : keyeventref03_Code.f a0 = some (r1, r2)) :
    Calls Try.prog 29 #[.int .i64 a0] w fun e w' => e = .returned (.tuple #[.string r1, .bool r2]) ∧ Below w.heap.size w w' := by
  have HB := Aside0.mk (Below.refl w.heap.size w)
  have H : (if a0 < 1 then (some ((⟨#[]⟩ : ByteArray), false)) else (if a0 > 8 then (some ((⟨#[]⟩ : ByteArray), false)) else ((some (([(⟨#[]⟩ : ByteArray), (⟨#[69]⟩ : ByteArray), (⟨#[68]⟩ : ByteArray), (⟨#[66]⟩ : ByteArray), (⟨#[65]⟩ : ByteArray), (⟨#[48, 65]⟩ : ByteArray), (⟨#[77]⟩ : ByteArray), (⟨#[83]⟩ : ByteArray), (⟨#[49, 65, 65, 76]⟩ : ByteArray)] : List ByteArray) : List ByteArray)).bind fun y188 => (if 0 ≤ a0 then (if a0 < (y188.length : Int) then (some (rdOf ByteArray.empty y188 a0, true)) else (none)) else (none))))) = some (r1, r2) := h
  clear h
  by_cases c2 : a0 < 1
  · rw [if_pos c2] at H
    have c2b0 : decide (a0 < 1) = true := decide_eq_true c2
    clear c2
    simp only [Option.some.injEq, Prod.mk.injEq] at H
    obtain ⟨rfl, rfl⟩ := H
    go_enter Try.func29, Try.ntmps29
    go_wp2
    go_ret2
    exact ⟨by first | rfl | (simp [errW_none, errW_some] <;> rfl) | (simp [*, errW_none, errW_some] <;> rfl), by repeat (first | (with_reducible first | exact HB.out | apply below_alloc | apply pw_below_drewN | apply below_drew1) | exact HB.out)⟩
  · rw [if_neg c2] at H
    have c2b0 : decide (a0 < 1) = false := decide_eq_false c2
    clear c2
    by_cases c3 : a0 > 8
    · rw [if_pos c3] at H
      have c3b0 : decide (8 < a0) = true := decide_eq_true c3
      clear c3
      simp only [Option.some.injEq, Prod.mk.injEq] at H
      obtain ⟨rfl, rfl⟩ := H
      go_enter Try.func29, Try.ntmps29
      go_wp2
      go_ret2
      exact ⟨by first | rfl | (simp [errW_none, errW_some] <;> rfl) | (simp [*, errW_none, errW_some] <;> rfl), by repeat (first | (with_reducible first | exact HB.out | apply below_alloc | apply pw_below_drewN | apply below_drew1) | exact HB.out)⟩
    · rw [if_neg c3] at H
      have c3b0 : decide (8 < a0) = false := decide_eq_false c3
      clear c3
      obtain ⟨y188, hy188⟩ : ∃ y_ : List ByteArray, y_ = (([(⟨#[]⟩ : ByteArray), (⟨#[69]⟩ : ByteArray), (⟨#[68]⟩ : ByteArray), (⟨#[66]⟩ : ByteArray), (⟨#[65]⟩ : ByteArray), (⟨#[48, 65]⟩ : ByteArray), (⟨#[77]⟩ : ByteArray), (⟨#[83]⟩ : ByteArray), (⟨#[49, 65, 65, 76]⟩ : ByteArray)] : List ByteArray)) := ⟨_, rfl⟩
      replace H : (if 0 ≤ a0 then (if a0 < (y188.length : Int) then (some (rdOf ByteArray.empty y188 a0, true)) else (none)) else (none)) = some (r1, r2) := by first | (rw [hy188]; with_reducible exact H) | (have H2_ := (Option.bind_some _ _).symm.trans H; rw [hy188]; with_reducible exact H2_) | (have H2_ := (Option.bind_some _ _).symm.trans H; with_reducible exact H2_) | with_reducible exact H | (rw [hy188]; exact H) | exact H
      have Ny188 := Aside0.mk hy188
      clear hy188
      by_cases c4 : 0 ≤ a0
      · rw [if_pos c4] at H
        have c4b0 : decide (0 ≤ a0) = true := decide_eq_true c4
        clear c4
        by_cases c5 : a0 < (y188.length : Int)
        · rw [if_pos c5] at H
          have c5b0 : decide (a0 < (y188.length : Int)) = true := decide_eq_true c5
          clear c5
          simp only [Option.some.injEq, Prod.mk.injEq] at H
          obtain ⟨rfl, rfl⟩ := H
          go_enter Try.func29, Try.ntmps29
          go_wp2_with (first | ((with_reducible refine gate_dst (N := 10) rfl ?_); refine Kd.R_lit Kd.string _ 9 ?hg (N := 10) ?hd (xs := ([(⟨#[]⟩ : ByteArray), (⟨#[69]⟩ : ByteArray), (⟨#[68]⟩ : ByteArray), (⟨#[66]⟩ : ByteArray), (⟨#[65]⟩ : ByteArray), (⟨#[48, 65]⟩ : ByteArray), (⟨#[77]⟩ : ByteArray), (⟨#[83]⟩ : ByteArray), (⟨#[49, 65, 65, 76]⟩ : ByteArray)] : List ByteArray)) (inner := [.string (⟨#[]⟩ : ByteArray), .string (⟨#[69]⟩ : ByteArray), .string (⟨#[68]⟩ : ByteArray), .string (⟨#[66]⟩ : ByteArray), .string (⟨#[65]⟩ : ByteArray), .string (⟨#[48, 65]⟩ : ByteArray), .string (⟨#[77]⟩ : ByteArray), .string (⟨#[83]⟩ : ByteArray), .string (⟨#[49, 65, 65, 76]⟩ : ByteArray)]) (ok := fun _ => True) (okp := fun _ => True) ?hr ?hp (fun _ hk => hk) trivial (Below.refl _ _) (Nat.le_refl _) (by simp) ?_; (case hd => rfl); (case hg => rfl); (case hr => first | (go_simp; done) | (go_simp; rfl)); (case hp => exact (Reps.one (show Kd.M Kd.string _ _ _ (⟨#[]⟩ : ByteArray) [.string (⟨#[]⟩ : ByteArray)] from rfl) (Reps.one (show Kd.M Kd.string _ _ _ (⟨#[69]⟩ : ByteArray) [.string (⟨#[69]⟩ : ByteArray)] from rfl) (Reps.one (show Kd.M Kd.string _ _ _ (⟨#[68]⟩ : ByteArray) [.string (⟨#[68]⟩ : ByteArray)] from rfl) (Reps.one (show Kd.M Kd.string _ _ _ (⟨#[66]⟩ : ByteArray) [.string (⟨#[66]⟩ : ByteArray)] from rfl) (Reps.one (show Kd.M Kd.string _ _ _ (⟨#[65]⟩ : ByteArray) [.string (⟨#[65]⟩ : ByteArray)] from rfl) (Reps.one (show Kd.M Kd.string _ _ _ (⟨#[48, 65]⟩ : ByteArray) [.string (⟨#[48, 65]⟩ : ByteArray)] from rfl) (Reps.one (show Kd.M Kd.string _ _ _ (⟨#[77]⟩ : ByteArray) [.string (⟨#[77]⟩ : ByteArray)] from rfl) (Reps.one (show Kd.M Kd.string _ _ _ (⟨#[83]⟩ : ByteArray) [.string (⟨#[83]⟩ : ByteArray)] from rfl) (Reps.one (show Kd.M Kd.string _ _ _ (⟨#[49, 65, 65, 76]⟩ : ByteArray) [.string (⟨#[49, 65, 65, 76]⟩ : ByteArray)] from rfl) (Reps.none _ _))))))))))); intro v189 w6 ho7 hb hg_ hnew_; clear hg_ hnew_; (first | rw [← Ny188.out] at ho7 | (simp only [Int.reduceToNat] at ho7; rw [← Ny188.out] at ho7)); have n0_ := Aside0.mk (Kd.R_lower ho7 (below_size (by repeat (first | (with_reducible first | exact HB.out | apply below_alloc | apply pw_below_drewN | apply below_drew1) | exact HB.out)))); have n1_ := Aside0.mk (below_step (by repeat (first | (with_reducible first | exact HB.out | apply below_alloc | apply pw_below_drewN | apply below_drew1) | exact HB.out)) hb); clear HB; have HO190 := n0_; have HB := n1_; clear n0_ n1_; clear hb ho7; obtain ⟨Ao8, co8, eo8⟩ := Kd.R_slice HO190.out; subst eo8; have p191 : 0 ≤ (a0 : Int) := of_decide_eq_true (by first | (with_reducible assumption) | assumption); have q191 : a0 < (y188.length : Int) := of_decide_eq_true (by first | (with_reducible assumption) | assumption); obtain ⟨ad191, e191, hx191_0⟩ := Kd.at_string (Kd.R_reads' HO190.out).2.2 a0 p191 q191; cases e191; replace p191 := eq_true p191; replace q191 := eq_true q191))
          go_ret2
          exact ⟨by first | rfl | (simp [errW_none, errW_some] <;> rfl) | (simp [*, errW_none, errW_some] <;> rfl), by repeat (first | (with_reducible first | exact HB.out | apply below_alloc | apply pw_below_drewN | apply below_drew1) | exact HB.out)⟩
        · rw [if_neg c5] at H
          exact absurd H (by simp)
      · rw [if_neg c4] at H
        exact absurd H (by simp)

/-! ### keyeventref03_lead: function 42 -/
def keyeventref03_lead.f (a0 : Int) : Option (Int) := (keyeventref03_Raw.f a0).bind fun t192 => (some (Int.tmod (wrap64 (3 - (Int.tmod t192 3))) 3))
set_option maxHeartbeats 8000000 in
set_option maxRecDepth 100000 in
theorem keyeventref03_lead.calls (a0 : Int) (r : Int) (w : World) (h : keyeventref03_lead.f a0 = some r) :
    Calls Try.prog 42 #[.int .i64 a0] w fun e w' => e = .returned (.int .i64 r) ∧ Below w.heap.size w w' := by
  have HB := Aside0.mk (Below.refl w.heap.size w)
  have H : ((keyeventref03_Raw.f a0).bind fun t192 => (some (Int.tmod (wrap64 (3 - (Int.tmod t192 3))) 3))) = some r := h
  clear h
  replace H := Option.bind_eq_some_iff.mp H
  obtain ⟨t192, A20, H⟩ := H
  replace H : (some (Int.tmod (wrap64 (3 - (Int.tmod t192 3))) 3)) = some r := H
  have A2 := Aside0.mk A20
  clear A20
  obtain rfl := Option.some.inj H
  go_enter Try.func42, Try.ntmps42
  go_wp2_with (first | ((with_reducible refine gate_callee (f := 31) rfl ?_); refine goesL_ (some 4) rfl rfl Try.func31 (by kernel_rfl) rfl #[.int .i64 a0] rfl (by (try simp only [List.map_toArray, List.map_cons, List.map_nil]); first | done | rfl | (simp only [List.length_drop, List.length_take]; rfl)) ?_; (with_reducible refine (keyeventref03_Raw.calls a0 t192 _ A2.out).mono ?_); rintro e w3 ⟨rfl, hb⟩; refine ⟨_, rfl, ?_⟩; have n0_ := Aside0.mk (below_step (by repeat (first | (with_reducible first | exact HB.out | apply below_alloc | apply pw_below_drewN | apply below_drew1) | exact HB.out)) hb); clear HB; have HB := n0_; clear n0_; (try clear hb); (try clear hb2); (try clear hk); (try clear hi)))
  go_ret
  exact ⟨by first | rfl | (simp [errW_none, errW_some] <;> rfl) | (simp [*, errW_none, errW_some] <;> rfl), by repeat (first | (with_reducible first | exact HB.out | apply below_alloc | apply pw_below_drewN | apply below_drew1) | exact HB.out)⟩

end Go.Proofs.Ytgicgdiklinomaa.X
