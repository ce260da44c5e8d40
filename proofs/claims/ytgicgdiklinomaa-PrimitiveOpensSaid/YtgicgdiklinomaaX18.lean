-- Written by xprint.py, a program of this repo that leads the kit's print.py: Lean checks it.
import Derived.Test.YtgicgdiklinomaaX0
import Derived.Test.YtgicgdiklinomaaX2
import Derived.Test.YtgicgdiklinomaaX5
import Derived.Test.YtgicgdiklinomaaX7
import Derived.Test.YtgicgdiklinomaaX17
namespace Go.Proofs.Ytgicgdiklinomaa.X
open Go.RowKit Go.Proofs.YtgicgdiklinomaaW.PrintWords Go.Proofs.YtgicgdiklinomaaW.PrintLast Go.Proofs.YtgicgdiklinomaaW.PrintMore
attribute [local go_sem] max2_int min2_int max_two min_two max_three min_three max_four min_four   -- for this text's walks alone
set_option linter.unusedVariables false
set_option linter.unusedSimpArgs false

/-! ### keyeventlaw03_PrimitiveOpens: function 6 -/
def keyeventlaw03_PrimitiveOpens.f (k : Nat) (l0 : List Int) (a1 : Int) : Option (Bool) := (keyeventkit_Light.f l0).bind fun t265 => (if t265 = true then ((keyeventkit_Roll.f l0).bind fun bt267 => ((keyeventkit_Primitive.f k bt267.1 bt267.2).bind fun bt270 => ((primitive_Make.f k bt270.1 bt270.2.1).bind fun t274 => (if t274.toList = ([] : List UInt8) then ((keyeventlaw03_awake.f k).bind fun t275 => (some t275)) else ((keyeventkit_Mod.f a1 8).bind fun t276 => ((primitive_Open.f k (wrap64 (1 + t276)) t274).bind fun bt277 => (if t274.size + 1 ≤ 9223372036854775807 then ((primitive_Open.f k bt270.1 (t274 ++ (⟨#[65]⟩ : ByteArray))).bind fun bt279 => (if 0 ≤ (wrap64 ((t274.size : Int) - 1)) then (if (wrap64 ((t274.size : Int) - 1)) ≤ (t274.size : Int) then ((primitive_Open.f k bt270.1 (t274.extract 0 ((wrap64 ((t274.size : Int) - 1)) : Int).toNat)).bind fun bt281 => (if ((bt277.2 == 0) == ((wrap64 (1 + t276)) == bt270.1)) = true then (if bt277.2 = 0 then (if bt277.1.toList = bt270.2.1.toList then (if bt279.2 = 8 then (if bt281.2 = 8 then ((keyeventlaw03_awake.f k).bind fun t283 => (some t283)) else (some false)) else (some false)) else (some false)) else (if bt277.2 = 7 then (if bt279.2 = 8 then (if bt281.2 = 8 then ((keyeventlaw03_awake.f k).bind fun t284 => (some t284)) else (some false)) else (some false)) else (some false))) else (some false))) else (none)) else (none))) else (none)))))))) else ((keyeventlaw03_awake.f k).bind fun t266 => (some t266)))
theorem keyeventlaw03_PrimitiveOpens.mono : ∀ a0 a1 k, LeO (keyeventlaw03_PrimitiveOpens.f k a0 a1) (keyeventlaw03_PrimitiveOpens.f (k + 1) a0 a1) := by
  intro a0 a1 k
  unfold keyeventlaw03_PrimitiveOpens.f
  repeat' first
      | (with_reducible exact keyeventkit_Primitive.mono _ _ _)
      | (with_reducible exact keyeventlaw03_awake.mono _)
      | (with_reducible exact primitive_Make.mono _ _ _)
      | (with_reducible exact primitive_Open.mono _ _ _)
      | (with_reducible exact LeO.refl _)
      | (with_reducible exact LeO.none _)
      | (with_reducible refine LeO.ite ?_ ?_)
      | (with_reducible refine LeO.bind ?_ (fun _ => ?_))
      | exact keyeventkit_Primitive.mono _ _ _
      | exact keyeventlaw03_awake.mono _
      | exact primitive_Make.mono _ _ _
      | exact primitive_Open.mono _ _ _
      | exact LeO.none _
      | refine LeO.ite ?_ ?_
      | refine LeO.bind ?_ (fun _ => ?_)
def keyeventlaw03_PrimitiveOpens.T10 : Bool × List (List Nat × List Nat) := (true, [([], []), ([0], [0]), ([], []), ([], []), ([3], [3]), ([4], [4]), ([2, 5], [2, 5]), ([1, 6], [1, 6]), ([7], [7]), ([8], [8]), ([8], [8]), ([9, 7, 0, 1, 2, 3, 4, 5, 6, 7, 8, 9], [9]), ([10, 11, 0, 1, 2, 3, 4, 5, 6, 7, 8, 9, 10, 11], [10])])
def keyeventlaw03_PrimitiveOpens.B10 : List Nat := [0, 1, 0, 0, 8, 24, 60, 127, 255, 511, 511, 1023, 4095]
theorem keyeventlaw03_PrimitiveOpens.tab10 : rtab .any (opsOf Try.f6 10) = keyeventlaw03_PrimitiveOpens.T10 := by kernel_rfl
theorem keyeventlaw03_PrimitiveOpens.bits10 : waitsOk keyeventlaw03_PrimitiveOpens.T10.2 keyeventlaw03_PrimitiveOpens.B10 = true := by kernel_rfl
set_option maxHeartbeats 8000000 in
set_option maxRecDepth 100000 in
theorem keyeventlaw03_PrimitiveOpens.calls (k : Nat) (A0 : Option Addr) (c0 : Nat) (l0 : List Int) (a1 : Int) (r : Bool) (w : World) (hr0 : Kd.C (Kd.int .i64) w A0 l0.length l0) (hc0 : l0.length ≤ c0) (h : keyeventlaw03_PrimitiveOpens.f k l0 a1 = some r) :
    Calls Try.prog 6 #[.slice A0 l0.length c0, .int .i64 a1] w fun e w' => e = .returned (.bool r) ∧ Below w.heap.size w w' := by
  have hu29 := Try.underlying29
  have HR0 := Aside0.mk hr0
  have HC0 := Aside0.mk hc0
  clear hr0 hc0
  have HB := Aside0.mk (Below.refl w.heap.size w)
  have H : ((keyeventkit_Light.f l0).bind fun t265 => (if t265 = true then ((keyeventkit_Roll.f l0).bind fun bt267 => ((keyeventkit_Primitive.f k bt267.1 bt267.2).bind fun bt270 => ((primitive_Make.f k bt270.1 bt270.2.1).bind fun t274 => (if t274.toList = ([] : List UInt8) then ((keyeventlaw03_awake.f k).bind fun t275 => (some t275)) else ((keyeventkit_Mod.f a1 8).bind fun t276 => ((primitive_Open.f k (wrap64 (1 + t276)) t274).bind fun bt277 => (if t274.size + 1 ≤ 9223372036854775807 then ((primitive_Open.f k bt270.1 (t274 ++ (⟨#[65]⟩ : ByteArray))).bind fun bt279 => (if 0 ≤ (wrap64 ((t274.size : Int) - 1)) then (if (wrap64 ((t274.size : Int) - 1)) ≤ (t274.size : Int) then ((primitive_Open.f k bt270.1 (t274.extract 0 ((wrap64 ((t274.size : Int) - 1)) : Int).toNat)).bind fun bt281 => (if ((bt277.2 == 0) == ((wrap64 (1 + t276)) == bt270.1)) = true then (if bt277.2 = 0 then (if bt277.1.toList = bt270.2.1.toList then (if bt279.2 = 8 then (if bt281.2 = 8 then ((keyeventlaw03_awake.f k).bind fun t283 => (some t283)) else (some false)) else (some false)) else (some false)) else (if bt277.2 = 7 then (if bt279.2 = 8 then (if bt281.2 = 8 then ((keyeventlaw03_awake.f k).bind fun t284 => (some t284)) else (some false)) else (some false)) else (some false))) else (some false))) else (none)) else (none))) else (none)))))))) else ((keyeventlaw03_awake.f k).bind fun t266 => (some t266)))) = some r := h
  clear h
  replace H := Option.bind_eq_some_iff.mp H
  obtain ⟨t265, A30, H⟩ := H
  replace H : (if t265 = true then ((keyeventkit_Roll.f l0).bind fun bt267 => ((keyeventkit_Primitive.f k bt267.1 bt267.2).bind fun bt270 => ((primitive_Make.f k bt270.1 bt270.2.1).bind fun t274 => (if t274.toList = ([] : List UInt8) then ((keyeventlaw03_awake.f k).bind fun t275 => (some t275)) else ((keyeventkit_Mod.f a1 8).bind fun t276 => ((primitive_Open.f k (wrap64 (1 + t276)) t274).bind fun bt277 => (if t274.size + 1 ≤ 9223372036854775807 then ((primitive_Open.f k bt270.1 (t274 ++ (⟨#[65]⟩ : ByteArray))).bind fun bt279 => (if 0 ≤ (wrap64 ((t274.size : Int) - 1)) then (if (wrap64 ((t274.size : Int) - 1)) ≤ (t274.size : Int) then ((primitive_Open.f k bt270.1 (t274.extract 0 ((wrap64 ((t274.size : Int) - 1)) : Int).toNat)).bind fun bt281 => (if ((bt277.2 == 0) == ((wrap64 (1 + t276)) == bt270.1)) = true then (if bt277.2 = 0 then (if bt277.1.toList = bt270.2.1.toList then (if bt279.2 = 8 then (if bt281.2 = 8 then ((keyeventlaw03_awake.f k).bind fun t283 => (some t283)) else (some false)) else (some false)) else (some false)) else (if bt277.2 = 7 then (if bt279.2 = 8 then (if bt281.2 = 8 then ((keyeventlaw03_awake.f k).bind fun t284 => (some t284)) else (some false)) else (some false)) else (some false))) else (some false))) else (none)) else (none))) else (none)))))))) else ((keyeventlaw03_awake.f k).bind fun t266 => (some t266))) = some r := H
  have A3 := Aside0.mk A30
  clear A30
  by_cases c4 : t265 = true
  · subst c4
    have H1 : ((keyeventkit_Roll.f l0).bind fun bt267 => ((keyeventkit_Primitive.f k bt267.1 bt267.2).bind fun bt270 => ((primitive_Make.f k bt270.1 bt270.2.1).bind fun t274 => (if t274.toList = ([] : List UInt8) then ((keyeventlaw03_awake.f k).bind fun t275 => (some t275)) else ((keyeventkit_Mod.f a1 8).bind fun t276 => ((primitive_Open.f k (wrap64 (1 + t276)) t274).bind fun bt277 => (if t274.size + 1 ≤ 9223372036854775807 then ((primitive_Open.f k bt270.1 (t274 ++ (⟨#[65]⟩ : ByteArray))).bind fun bt279 => (if 0 ≤ (wrap64 ((t274.size : Int) - 1)) then (if (wrap64 ((t274.size : Int) - 1)) ≤ (t274.size : Int) then ((primitive_Open.f k bt270.1 (t274.extract 0 ((wrap64 ((t274.size : Int) - 1)) : Int).toNat)).bind fun bt281 => (if ((bt277.2 == 0) == ((wrap64 (1 + t276)) == bt270.1)) = true then (if bt277.2 = 0 then (if bt277.1.toList = bt270.2.1.toList then (if bt279.2 = 8 then (if bt281.2 = 8 then ((keyeventlaw03_awake.f k).bind fun t283 => (some t283)) else (some false)) else (some false)) else (some false)) else (if bt277.2 = 7 then (if bt279.2 = 8 then (if bt281.2 = 8 then ((keyeventlaw03_awake.f k).bind fun t284 => (some t284)) else (some false)) else (some false)) else (some false))) else (some false))) else (none)) else (none))) else (none)))))))) = some r := by rw [if_pos rfl] at H; exact H
    clear H
    have H := H1
    clear H1
    replace H := Option.bind_eq_some_iff.mp H
    obtain ⟨⟨t267, t268⟩, A50, H⟩ := H
    replace H : ((keyeventkit_Primitive.f k t267 t268).bind fun bt270 => ((primitive_Make.f k bt270.1 bt270.2.1).bind fun t274 => (if t274.toList = ([] : List UInt8) then ((keyeventlaw03_awake.f k).bind fun t275 => (some t275)) else ((keyeventkit_Mod.f a1 8).bind fun t276 => ((primitive_Open.f k (wrap64 (1 + t276)) t274).bind fun bt277 => (if t274.size + 1 ≤ 9223372036854775807 then ((primitive_Open.f k bt270.1 (t274 ++ (⟨#[65]⟩ : ByteArray))).bind fun bt279 => (if 0 ≤ (wrap64 ((t274.size : Int) - 1)) then (if (wrap64 ((t274.size : Int) - 1)) ≤ (t274.size : Int) then ((primitive_Open.f k bt270.1 (t274.extract 0 ((wrap64 ((t274.size : Int) - 1)) : Int).toNat)).bind fun bt281 => (if ((bt277.2 == 0) == ((wrap64 (1 + t276)) == bt270.1)) = true then (if bt277.2 = 0 then (if bt277.1.toList = bt270.2.1.toList then (if bt279.2 = 8 then (if bt281.2 = 8 then ((keyeventlaw03_awake.f k).bind fun t283 => (some t283)) else (some false)) else (some false)) else (some false)) else (if bt277.2 = 7 then (if bt279.2 = 8 then (if bt281.2 = 8 then ((keyeventlaw03_awake.f k).bind fun t284 => (some t284)) else (some false)) else (some false)) else (some false))) else (some false))) else (none)) else (none))) else (none))))))) = some r := H
    have A5 := Aside0.mk A50
    clear A50
    replace H := Option.bind_eq_some_iff.mp H
    obtain ⟨⟨t270, t271, t272⟩, A60, H⟩ := H
    replace H : ((primitive_Make.f k t270 t271).bind fun t274 => (if t274.toList = ([] : List UInt8) then ((keyeventlaw03_awake.f k).bind fun t275 => (some t275)) else ((keyeventkit_Mod.f a1 8).bind fun t276 => ((primitive_Open.f k (wrap64 (1 + t276)) t274).bind fun bt277 => (if t274.size + 1 ≤ 9223372036854775807 then ((primitive_Open.f k t270 (t274 ++ (⟨#[65]⟩ : ByteArray))).bind fun bt279 => (if 0 ≤ (wrap64 ((t274.size : Int) - 1)) then (if (wrap64 ((t274.size : Int) - 1)) ≤ (t274.size : Int) then ((primitive_Open.f k t270 (t274.extract 0 ((wrap64 ((t274.size : Int) - 1)) : Int).toNat)).bind fun bt281 => (if ((bt277.2 == 0) == ((wrap64 (1 + t276)) == t270)) = true then (if bt277.2 = 0 then (if bt277.1.toList = t271.toList then (if bt279.2 = 8 then (if bt281.2 = 8 then ((keyeventlaw03_awake.f k).bind fun t283 => (some t283)) else (some false)) else (some false)) else (some false)) else (if bt277.2 = 7 then (if bt279.2 = 8 then (if bt281.2 = 8 then ((keyeventlaw03_awake.f k).bind fun t284 => (some t284)) else (some false)) else (some false)) else (some false))) else (some false))) else (none)) else (none))) else (none)))))) = some r := H
    have A6 := Aside0.mk A60
    clear A60
    replace H := Option.bind_eq_some_iff.mp H
    obtain ⟨t274, A70, H⟩ := H
    replace H : (if t274.toList = ([] : List UInt8) then ((keyeventlaw03_awake.f k).bind fun t275 => (some t275)) else ((keyeventkit_Mod.f a1 8).bind fun t276 => ((primitive_Open.f k (wrap64 (1 + t276)) t274).bind fun bt277 => (if t274.size + 1 ≤ 9223372036854775807 then ((primitive_Open.f k t270 (t274 ++ (⟨#[65]⟩ : ByteArray))).bind fun bt279 => (if 0 ≤ (wrap64 ((t274.size : Int) - 1)) then (if (wrap64 ((t274.size : Int) - 1)) ≤ (t274.size : Int) then ((primitive_Open.f k t270 (t274.extract 0 ((wrap64 ((t274.size : Int) - 1)) : Int).toNat)).bind fun bt281 => (if ((bt277.2 == 0) == ((wrap64 (1 + t276)) == t270)) = true then (if bt277.2 = 0 then (if bt277.1.toList = t271.toList then (if bt279.2 = 8 then (if bt281.2 = 8 then ((keyeventlaw03_awake.f k).bind fun t283 => (some t283)) else (some false)) else (some false)) else (some false)) else (if bt277.2 = 7 then (if bt279.2 = 8 then (if bt281.2 = 8 then ((keyeventlaw03_awake.f k).bind fun t284 => (some t284)) else (some false)) else (some false)) else (some false))) else (some false))) else (none)) else (none))) else (none))))) = some r := H
    have A7 := Aside0.mk A70
    clear A70
    by_cases c8 : t274.toList = ([] : List UInt8)
    · rw [if_pos c8] at H
      have c8b0 : (t274.toList == ([] : List UInt8)) = true := beq_iff_eq.mpr c8
      have c8b1 : (t274.toList != ([] : List UInt8)) = false := bne_eq_false_iff_eq.mpr c8
      clear c8
      replace H := Option.bind_eq_some_iff.mp H
      obtain ⟨t275, A90, H⟩ := H
      replace H : (some t275) = some r := H
      have A9 := Aside0.mk A90
      clear A90
      obtain rfl := Option.some.inj H
      go_enter Try.func6, Try.ntmps6
      go_wp2_with (first | ((with_reducible refine gate_callee (f := 8) rfl ?_); refine goesL_ (some 15) rfl rfl Try.func8 (by kernel_rfl) rfl #[.slice A0 l0.length c0] rfl (by (try simp only [List.map_toArray, List.map_cons, List.map_nil]); first | done | rfl | (simp only [List.length_drop, List.length_take]; rfl)) ?_; (with_reducible refine (keyeventkit_Light.calls _ _ l0 true _ ?side1 ?side2 A3.out).mono ?_); (case side1 => repeat (first | exact HR0.out | (with_reducible refine Kd.C_alloc ?_ _) | (with_reducible refine Kd.C_drewN ?_ _) | (with_reducible refine Kd.C_drew ?_))); (case side2 => exact HC0.out); rintro e w' ⟨rfl, ⟨nd, rfl⟩⟩; refine ⟨_, rfl, ?_⟩) | ((with_reducible refine gate_callee (f := 12) rfl ?_); refine goesL_ (some 19) rfl rfl Try.func12 (by kernel_rfl) rfl #[.slice A0 l0.length c0] rfl (by (try simp only [List.map_toArray, List.map_cons, List.map_nil]); first | done | rfl | (simp only [List.length_drop, List.length_take]; rfl)) ?_; (with_reducible refine (keyeventkit_Roll.calls _ _ l0 t267 t268 w _ ?side1 ?side2 ?side3 A5.out).mono ?_); (case side1 => repeat (first | (with_reducible first | exact HB.out | apply below_alloc | apply pw_below_drewN | apply below_drew1) | exact HB.out)); (case side2 => exact HR0.out); (case side3 => exact HC0.out); rintro e w10 ⟨g269, rfl, hi, hb, hb2⟩; refine ⟨_, rfl, ?_⟩; have n0_ := Aside0.mk (hb); have n1_ := Aside0.mk (hi); clear HB; have HB := n0_; have HI269 := n1_; clear n0_ n1_; (try clear hb); (try clear hb2); (try clear hk); (try clear hi)) | ((with_reducible refine gate_callee (f := 11) rfl ?_); refine goesL_ (some 20) rfl rfl Try.func11 (by kernel_rfl) rfl #[.pointer (some ⟨g269, 0, none⟩)] rfl (by (try simp only [List.map_toArray, List.map_cons, List.map_nil]); first | done | rfl | (simp only [List.length_drop, List.length_take]; rfl)) ?_; (with_reducible refine (keyeventkit_Primitive.calls k g269 t267 t268 t270 t271 t272 w _ ?side1 ?side2 A6.out).mono ?_); (case side1 => repeat (first | (with_reducible first | exact HI269.out | apply IsS59.alloc | apply IsS59.drewN | apply IsS59.drew | apply IsS59.set_1) | exact HI269.out)); (case side2 => repeat (first | (with_reducible first | exact HB.out | apply below_alloc | apply pw_below_drewN | apply below_drew1 | refine below_set ?_ (IsS59.ge HI269.out)) | exact HB.out)); rintro e w11 ⟨rfl, hi, hb, hk⟩; refine ⟨_, rfl, ?_⟩; have n0_ := Aside0.mk (hb); have n1_ := Aside0.mk (hi); clear HB; clear HI269; have HB := n0_; have HI269 := n1_; clear n0_ n1_; (try clear hb); (try clear hb2); (try clear hk); (try clear hi)) | ((with_reducible refine gate_dst (N := 5) rfl ?_); refine box_event ?hg (N := 5) ?hd (cs := #[.int .i64 0, .string (⟨#[]⟩ : ByteArray)]) (t := 29) ?hr ?_; (case hd => rfl); (case hg => rfl); (case hr => first | (go_simp; done) | (go_simp; rfl)); intro gb273 hg w12 hbox hb; have n0_ := Aside0.mk (IsS59.below (by repeat (first | (with_reducible first | exact HI269.out | apply IsS59.alloc | apply IsS59.drewN | apply IsS59.drew | apply IsS59.set_1) | exact HI269.out)) hb); have n1_ := Aside0.mk (below_step (by repeat (first | (with_reducible first | exact HB.out | apply below_alloc | apply pw_below_drewN | apply below_drew1 | refine below_set ?_ (IsS59.ge HI269.out)) | exact HB.out)) hb); have n2_ := Aside0.mk (hbox); have n3_ := Aside0.mk ((by rw [hg]; exact (below_size (by repeat (first | (with_reducible first | exact HB.out | apply below_alloc | apply pw_below_drewN | apply below_drew1 | refine below_set ?_ (IsS59.ge HI269.out)) | exact HB.out))) : w.heap.size ≤ gb273)); have n4_ := Aside0.mk ((by rw [hg]; exact (below_size (by repeat (first | (with_reducible first | exact HB.out | apply below_alloc | apply pw_below_drewN | apply below_drew1 | refine below_set ?_ (IsS59.ge HI269.out)) | exact HB.out))) : w.heap.size ≤ gb273)); have n5_ := Aside0.mk ((by rw [hg]; exact Nat.ne_of_lt (IsS59.lt (show IsS59 w _ g269 t267 t272 from by repeat (first | (with_reducible first | exact HI269.out | apply IsS59.alloc | apply IsS59.drewN | apply IsS59.drew | apply IsS59.set_1) | exact HI269.out))) : g269 ≠ gb273)); have n6_ := Aside0.mk ((by rw [hg]; exact Nat.ne_of_gt (IsS59.lt (show IsS59 w _ g269 t267 t272 from by repeat (first | (with_reducible first | exact HI269.out | apply IsS59.alloc | apply IsS59.drewN | apply IsS59.drew | apply IsS59.set_1) | exact HI269.out))) : gb273 ≠ g269)); clear HI269; clear HB; have HI269 := n0_; have HB := n1_; have BK273 := n2_; have GW273 := n3_; have GE273 := n4_; have NB269_273 := n5_; have NB273_269 := n6_; clear n0_ n1_ n2_ n3_ n4_ n5_ n6_; clear hb hbox hg; have hnb13 := NB273_269.out; have hnc13 := NB269_273.out; have hcz14_0 : w12.cell? ⟨gb273, 0, none⟩ = some (.int .i64 0) := (blk_cell BK273.out 0).trans rfl; have hcz14_1 : w12.cell? ⟨gb273, 1, none⟩ = some (.string (⟨#[]⟩ : ByteArray)) := (blk_cell BK273.out 1).trans rfl; have hfz14_0 := blk_frozen BK273.out 0; have hfz14_1 := blk_frozen BK273.out 1) | ((with_reducible refine gate_callee (f := 19) rfl ?_); refine goesL_ (some 25) rfl rfl Try.func19 (by kernel_rfl) rfl #[.int .i64 t270, .string t271] rfl (by (try simp only [List.map_toArray, List.map_cons, List.map_nil]); first | done | rfl | (simp only [List.length_drop, List.length_take]; rfl)) ?_; (with_reducible refine (primitive_Make.calls k t270 t271 t274 _ A7.out).mono ?_); rintro e w15 ⟨rfl, hb⟩; refine ⟨_, rfl, ?_⟩; have n0_ := Aside0.mk (IsS59.below (show IsS59 w ((w12.setCell ⟨gb273, 0, none⟩ (.int .i64 t270)).setCell ⟨gb273, 1, none⟩ (.string t271)) g269 t267 t272 from by repeat (first | (with_reducible first | exact HI269.out | apply IsS59.alloc | apply IsS59.drewN | apply IsS59.drew | apply IsS59.set_1 | refine IsS59.far ?_ NB269_273.out _) | exact HI269.out)) hb); have n1_ := Aside0.mk (blk_below (g := gb273) (o := .cells #[.int .i64 t270, .string t271] 29 (0, 0)) (by (with_reducible repeat (first | refine blk_drewN ?_ _ | refine blk_drew ?_ | refine blk_alloc ?_ _)); refine blk_put (cs := #[.int .i64 t270, .string (⟨#[]⟩ : ByteArray)]) ?_ 1 _ rfl; (with_reducible repeat (first | refine blk_drewN ?_ _ | refine blk_drew ?_ | refine blk_alloc ?_ _)); refine blk_put (cs := #[.int .i64 0, .string (⟨#[]⟩ : ByteArray)]) ?_ 0 _ rfl; (with_reducible repeat (first | refine blk_drewN ?_ _ | refine blk_drew ?_ | refine blk_alloc ?_ _)); exact BK273.out) hb); have n2_ := Aside0.mk (below_step (by repeat (first | (with_reducible first | exact HB.out | apply below_alloc | apply pw_below_drewN | apply below_drew1 | refine below_set ?_ (IsS59.ge HI269.out) | refine below_set ?_ GE273.out) | exact HB.out)) hb); clear HI269; clear BK273; clear HB; have HI269 := n0_; have BK273 := n1_; have HB := n2_; clear n0_ n1_ n2_; (try clear hb); (try clear hb2); (try clear hk); (try clear hi)) | ((with_reducible refine gate_callee (f := 9) rfl ?_); refine goesL_ (some 28) rfl rfl Try.func9 (by kernel_rfl) rfl #[] rfl (by (try simp only [List.map_toArray, List.map_cons, List.map_nil]); first | done | rfl | (simp only [List.length_drop, List.length_take]; rfl)) ?_; (with_reducible refine (keyeventlaw03_awake.calls k  t275 _ A9.out).mono ?_); rintro e w16 ⟨rfl, hb⟩; refine ⟨_, rfl, ?_⟩; have n0_ := Aside0.mk (IsS59.below (by repeat (first | (with_reducible first | exact HI269.out | apply IsS59.alloc | apply IsS59.drewN | apply IsS59.drew | apply IsS59.set_1 | refine IsS59.far ?_ NB269_273.out _) | exact HI269.out)) hb); have n1_ := Aside0.mk (blk_below (g := gb273) (o := .cells #[.int .i64 t270, .string t271] 29 (0, 0)) (by (with_reducible repeat (first | refine blk_drewN ?_ _ | refine blk_drew ?_ | refine blk_alloc ?_ _)); exact BK273.out) hb); have n2_ := Aside0.mk (below_step (by repeat (first | (with_reducible first | exact HB.out | apply below_alloc | apply pw_below_drewN | apply below_drew1 | refine below_set ?_ (IsS59.ge HI269.out) | refine below_set ?_ GE273.out) | exact HB.out)) hb); clear HI269; clear BK273; clear HB; have HI269 := n0_; have BK273 := n1_; have HB := n2_; clear n0_ n1_ n2_; (try clear hb); (try clear hb2); (try clear hk); (try clear hi)))
      go_ret
      exact ⟨by first | rfl | (simp [errW_none, errW_some] <;> rfl) | (simp [*, errW_none, errW_some] <;> rfl), by repeat (first | (with_reducible first | exact HB.out | apply below_alloc | apply pw_below_drewN | apply below_drew1 | refine below_set ?_ (IsS59.ge HI269.out) | refine below_set ?_ GE273.out) | exact HB.out)⟩
    · rw [if_neg c8] at H
      have c8b0 : (t274.toList == ([] : List UInt8)) = false := beq_eq_false_iff_ne.mpr c8
      have c8b1 : (t274.toList != ([] : List UInt8)) = true := bne_iff_ne.mpr c8
      replace H := Option.bind_eq_some_iff.mp H
      obtain ⟨t276, A170, H⟩ := H
      replace H : ((primitive_Open.f k (wrap64 (1 + t276)) t274).bind fun bt277 => (if t274.size + 1 ≤ 9223372036854775807 then ((primitive_Open.f k t270 (t274 ++ (⟨#[65]⟩ : ByteArray))).bind fun bt279 => (if 0 ≤ (wrap64 ((t274.size : Int) - 1)) then (if (wrap64 ((t274.size : Int) - 1)) ≤ (t274.size : Int) then ((primitive_Open.f k t270 (t274.extract 0 ((wrap64 ((t274.size : Int) - 1)) : Int).toNat)).bind fun bt281 => (if ((bt277.2 == 0) == ((wrap64 (1 + t276)) == t270)) = true then (if bt277.2 = 0 then (if bt277.1.toList = t271.toList then (if bt279.2 = 8 then (if bt281.2 = 8 then ((keyeventlaw03_awake.f k).bind fun t283 => (some t283)) else (some false)) else (some false)) else (some false)) else (if bt277.2 = 7 then (if bt279.2 = 8 then (if bt281.2 = 8 then ((keyeventlaw03_awake.f k).bind fun t284 => (some t284)) else (some false)) else (some false)) else (some false))) else (some false))) else (none)) else (none))) else (none))) = some r := H
      have A17 := Aside0.mk A170
      clear A170
      replace H := Option.bind_eq_some_iff.mp H
      obtain ⟨⟨t277, t278⟩, A180, H⟩ := H
      replace H : (if t274.size + 1 ≤ 9223372036854775807 then ((primitive_Open.f k t270 (t274 ++ (⟨#[65]⟩ : ByteArray))).bind fun bt279 => (if 0 ≤ (wrap64 ((t274.size : Int) - 1)) then (if (wrap64 ((t274.size : Int) - 1)) ≤ (t274.size : Int) then ((primitive_Open.f k t270 (t274.extract 0 ((wrap64 ((t274.size : Int) - 1)) : Int).toNat)).bind fun bt281 => (if ((t278 == 0) == ((wrap64 (1 + t276)) == t270)) = true then (if t278 = 0 then (if t277.toList = t271.toList then (if bt279.2 = 8 then (if bt281.2 = 8 then ((keyeventlaw03_awake.f k).bind fun t283 => (some t283)) else (some false)) else (some false)) else (some false)) else (if t278 = 7 then (if bt279.2 = 8 then (if bt281.2 = 8 then ((keyeventlaw03_awake.f k).bind fun t284 => (some t284)) else (some false)) else (some false)) else (some false))) else (some false))) else (none)) else (none))) else (none)) = some r := H
      have A18 := Aside0.mk A180
      clear A180
      by_cases c19 : t274.size + 1 ≤ 9223372036854775807
      · rw [if_pos c19] at H
        have c19b0 := eq_true c19
        have c19b1 : decide (t274.size + 1 ≤ 9223372036854775807) = true := decide_eq_true c19
        try have c19b2 : (9223372036854775807 < t274.size + 1) = False := eq_false (Nat.not_lt.2 c19)
        replace H := Option.bind_eq_some_iff.mp H
        obtain ⟨⟨t279, t280⟩, A200, H⟩ := H
        replace H : (if 0 ≤ (wrap64 ((t274.size : Int) - 1)) then (if (wrap64 ((t274.size : Int) - 1)) ≤ (t274.size : Int) then ((primitive_Open.f k t270 (t274.extract 0 ((wrap64 ((t274.size : Int) - 1)) : Int).toNat)).bind fun bt281 => (if ((t278 == 0) == ((wrap64 (1 + t276)) == t270)) = true then (if t278 = 0 then (if t277.toList = t271.toList then (if t280 = 8 then (if bt281.2 = 8 then ((keyeventlaw03_awake.f k).bind fun t283 => (some t283)) else (some false)) else (some false)) else (some false)) else (if t278 = 7 then (if t280 = 8 then (if bt281.2 = 8 then ((keyeventlaw03_awake.f k).bind fun t284 => (some t284)) else (some false)) else (some false)) else (some false))) else (some false))) else (none)) else (none)) = some r := H
        have A20 := Aside0.mk A200
        clear A200
        obtain ⟨ji21, hji21⟩ : ∃ j_ : Int, (wrap64 ((t274.size : Int) - 1)) = j_ := ⟨_, rfl⟩
        replace H : (if 0 ≤ (ji21) then (if (ji21) ≤ (t274.size : Int) then ((primitive_Open.f k t270 (t274.extract 0 ((ji21) : Int).toNat)).bind fun bt281 => (if ((t278 == 0) == ((wrap64 (1 + t276)) == t270)) = true then (if t278 = 0 then (if t277.toList = t271.toList then (if t280 = 8 then (if bt281.2 = 8 then ((keyeventlaw03_awake.f k).bind fun t283 => (some t283)) else (some false)) else (some false)) else (some false)) else (if t278 = 7 then (if t280 = 8 then (if bt281.2 = 8 then ((keyeventlaw03_awake.f k).bind fun t284 => (some t284)) else (some false)) else (some false)) else (some false))) else (some false))) else (none)) else (none)) = some r := by first | (rw [hji21] at H; exact H) | (simp only [hji21] at H ⊢; exact H)
        (try rw [hji21] at A3)
        (try rw [hji21] at A5)
        (try rw [hji21] at A6)
        (try rw [hji21] at A7)
        (try rw [hji21] at A17)
        (try rw [hji21] at A18)
        (try rw [hji21] at A20)
        have hji21w : (IntKind.i64.wrap ((t274.size : Int) - 1)) = ji21 := (i64_w _).trans hji21
        by_cases c22 : 0 ≤ (ji21)
        · rw [if_pos c22] at H
          have c22b0 := eq_true c22
          have c22b1 : decide (0 ≤ (ji21)) = true := decide_eq_true c22
          clear c22
          by_cases c23 : (ji21) ≤ (t274.size : Int)
          · rw [if_pos c23] at H
            have c23b0 := eq_true c23
            have c23b1 : decide ((ji21) ≤ (t274.size : Int)) = true := decide_eq_true c23
            clear c23
            replace H := Option.bind_eq_some_iff.mp H
            obtain ⟨⟨t281, t282⟩, A240, H⟩ := H
            replace H : (if ((t278 == 0) == ((wrap64 (1 + t276)) == t270)) = true then (if t278 = 0 then (if t277.toList = t271.toList then (if t280 = 8 then (if t282 = 8 then ((keyeventlaw03_awake.f k).bind fun t283 => (some t283)) else (some false)) else (some false)) else (some false)) else (if t278 = 7 then (if t280 = 8 then (if t282 = 8 then ((keyeventlaw03_awake.f k).bind fun t284 => (some t284)) else (some false)) else (some false)) else (some false))) else (some false)) = some r := H
            have A24 := Aside0.mk A240
            clear A240
            by_cases c25 : ((t278 == 0) == ((wrap64 (1 + t276)) == t270)) = true
            · rw [if_pos c25] at H
              have c25b0 : ((t278 == 0) == ((wrap64 (1 + t276)) == t270)) = true := c25
              (try (have c25b1 : decide ((t278 == 0) = ((wrap64 (1 + t276)) == t270)) = true := by simpa using c25))
              (try (have c25b2 : ((t278 == 0) == ((wrap64 (1 + t276)) == t270)) = true := by simpa using c25))
              clear c25
              by_cases c26 : t278 = 0
              · rw [if_pos c26] at H
                have c26b0 : (t278 == 0) = true := beq_iff_eq.mpr c26
                have c26b1 : (t278 != 0) = false := bne_eq_false_iff_eq.mpr c26
                (try have c26q : ((wrap64 (1 + t276)) == t270) = true := by have h_ := c25b0; rw [c26b0] at h_; simpa using h_)
                clear c26
                by_cases c27 : t277.toList = t271.toList
                · rw [if_pos c27] at H
                  have c27b0 : (t277.toList == t271.toList) = true := beq_iff_eq.mpr c27
                  have c27b1 : (t277.toList != t271.toList) = false := bne_eq_false_iff_eq.mpr c27
                  clear c27
                  by_cases c28 : t280 = 8
                  · rw [if_pos c28] at H
                    have c28b0 : (t280 == 8) = true := beq_iff_eq.mpr c28
                    have c28b1 : (t280 != 8) = false := bne_eq_false_iff_eq.mpr c28
                    clear c28
                    by_cases c29 : t282 = 8
                    · rw [if_pos c29] at H
                      have c29b0 : (t282 == 8) = true := beq_iff_eq.mpr c29
                      have c29b1 : (t282 != 8) = false := bne_eq_false_iff_eq.mpr c29
                      clear c29
                      replace H := Option.bind_eq_some_iff.mp H
                      obtain ⟨t283, A300, H⟩ := H
                      replace H : (some t283) = some r := H
                      have A30 := Aside0.mk A300
                      clear A300
                      obtain rfl := Option.some.inj H
                      go_enter Try.func6, Try.ntmps6
                      try go_wp2_with (first | ((with_reducible refine gate_callee (f := 8) rfl ?_); refine goesL_ (some 15) rfl rfl Try.func8 (by kernel_rfl) rfl #[.slice A0 l0.length c0] rfl (by (try simp only [List.map_toArray, List.map_cons, List.map_nil]); first | done | rfl | (simp only [List.length_drop, List.length_take]; rfl)) ?_; (with_reducible refine (keyeventkit_Light.calls _ _ l0 true _ ?side1 ?side2 A3.out).mono ?_); (case side1 => repeat (first | exact HR0.out | (with_reducible refine Kd.C_alloc ?_ _) | (with_reducible refine Kd.C_drewN ?_ _) | (with_reducible refine Kd.C_drew ?_))); (case side2 => exact HC0.out); rintro e w' ⟨rfl, ⟨nd, rfl⟩⟩; refine ⟨_, rfl, ?_⟩) | ((with_reducible refine gate_callee (f := 12) rfl ?_); refine goesL_ (some 19) rfl rfl Try.func12 (by kernel_rfl) rfl #[.slice A0 l0.length c0] rfl (by (try simp only [List.map_toArray, List.map_cons, List.map_nil]); first | done | rfl | (simp only [List.length_drop, List.length_take]; rfl)) ?_; (with_reducible refine (keyeventkit_Roll.calls _ _ l0 t267 t268 w _ ?side1 ?side2 ?side3 A5.out).mono ?_); (case side1 => repeat (first | (with_reducible first | exact HB.out | apply below_alloc | apply pw_below_drewN | apply below_drew1) | exact HB.out)); (case side2 => exact HR0.out); (case side3 => exact HC0.out); rintro e w31 ⟨g269, rfl, hi, hb, hb2⟩; refine ⟨_, rfl, ?_⟩; have n0_ := Aside0.mk (hb); have n1_ := Aside0.mk (hi); clear HB; have HB := n0_; have HI269 := n1_; clear n0_ n1_; (try clear hb); (try clear hb2); (try clear hk); (try clear hi)) | ((with_reducible refine gate_callee (f := 11) rfl ?_); refine goesL_ (some 20) rfl rfl Try.func11 (by kernel_rfl) rfl #[.pointer (some ⟨g269, 0, none⟩)] rfl (by (try simp only [List.map_toArray, List.map_cons, List.map_nil]); first | done | rfl | (simp only [List.length_drop, List.length_take]; rfl)) ?_; (with_reducible refine (keyeventkit_Primitive.calls k g269 t267 t268 t270 t271 t272 w _ ?side1 ?side2 A6.out).mono ?_); (case side1 => repeat (first | (with_reducible first | exact HI269.out | apply IsS59.alloc | apply IsS59.drewN | apply IsS59.drew | apply IsS59.set_1) | exact HI269.out)); (case side2 => repeat (first | (with_reducible first | exact HB.out | apply below_alloc | apply pw_below_drewN | apply below_drew1 | refine below_set ?_ (IsS59.ge HI269.out)) | exact HB.out)); rintro e w32 ⟨rfl, hi, hb, hk⟩; refine ⟨_, rfl, ?_⟩; have n0_ := Aside0.mk (hb); have n1_ := Aside0.mk (hi); clear HB; clear HI269; have HB := n0_; have HI269 := n1_; clear n0_ n1_; (try clear hb); (try clear hb2); (try clear hk); (try clear hi)) | ((with_reducible refine gate_dst (N := 5) rfl ?_); refine box_event ?hg (N := 5) ?hd (cs := #[.int .i64 0, .string (⟨#[]⟩ : ByteArray)]) (t := 29) ?hr ?_; (case hd => rfl); (case hg => rfl); (case hr => first | (go_simp; done) | (go_simp; rfl)); intro gb273 hg w33 hbox hb; have n0_ := Aside0.mk (IsS59.below (by repeat (first | (with_reducible first | exact HI269.out | apply IsS59.alloc | apply IsS59.drewN | apply IsS59.drew | apply IsS59.set_1) | exact HI269.out)) hb); have n1_ := Aside0.mk (below_step (by repeat (first | (with_reducible first | exact HB.out | apply below_alloc | apply pw_below_drewN | apply below_drew1 | refine below_set ?_ (IsS59.ge HI269.out)) | exact HB.out)) hb); have n2_ := Aside0.mk (hbox); have n3_ := Aside0.mk ((by rw [hg]; exact (below_size (by repeat (first | (with_reducible first | exact HB.out | apply below_alloc | apply pw_below_drewN | apply below_drew1 | refine below_set ?_ (IsS59.ge HI269.out)) | exact HB.out))) : w.heap.size ≤ gb273)); have n4_ := Aside0.mk ((by rw [hg]; exact (below_size (by repeat (first | (with_reducible first | exact HB.out | apply below_alloc | apply pw_below_drewN | apply below_drew1 | refine below_set ?_ (IsS59.ge HI269.out)) | exact HB.out))) : w.heap.size ≤ gb273)); have n5_ := Aside0.mk ((by rw [hg]; exact Nat.ne_of_lt (IsS59.lt (show IsS59 w _ g269 t267 t272 from by repeat (first | (with_reducible first | exact HI269.out | apply IsS59.alloc | apply IsS59.drewN | apply IsS59.drew | apply IsS59.set_1) | exact HI269.out))) : g269 ≠ gb273)); have n6_ := Aside0.mk ((by rw [hg]; exact Nat.ne_of_gt (IsS59.lt (show IsS59 w _ g269 t267 t272 from by repeat (first | (with_reducible first | exact HI269.out | apply IsS59.alloc | apply IsS59.drewN | apply IsS59.drew | apply IsS59.set_1) | exact HI269.out))) : gb273 ≠ g269)); clear HI269; clear HB; have HI269 := n0_; have HB := n1_; have BK273 := n2_; have GW273 := n3_; have GE273 := n4_; have NB269_273 := n5_; have NB273_269 := n6_; clear n0_ n1_ n2_ n3_ n4_ n5_ n6_; clear hb hbox hg; have hnb34 := NB273_269.out; have hnc34 := NB269_273.out; have hcz35_0 : w33.cell? ⟨gb273, 0, none⟩ = some (.int .i64 0) := (blk_cell BK273.out 0).trans rfl; have hcz35_1 : w33.cell? ⟨gb273, 1, none⟩ = some (.string (⟨#[]⟩ : ByteArray)) := (blk_cell BK273.out 1).trans rfl; have hfz35_0 := blk_frozen BK273.out 0; have hfz35_1 := blk_frozen BK273.out 1) | ((with_reducible refine gate_callee (f := 19) rfl ?_); refine goesL_ (some 25) rfl rfl Try.func19 (by kernel_rfl) rfl #[.int .i64 t270, .string t271] rfl (by (try simp only [List.map_toArray, List.map_cons, List.map_nil]); first | done | rfl | (simp only [List.length_drop, List.length_take]; rfl)) ?_; (with_reducible refine (primitive_Make.calls k t270 t271 t274 _ A7.out).mono ?_); rintro e w36 ⟨rfl, hb⟩; refine ⟨_, rfl, ?_⟩; have n0_ := Aside0.mk (IsS59.below (show IsS59 w ((w33.setCell ⟨gb273, 0, none⟩ (.int .i64 t270)).setCell ⟨gb273, 1, none⟩ (.string t271)) g269 t267 t272 from by repeat (first | (with_reducible first | exact HI269.out | apply IsS59.alloc | apply IsS59.drewN | apply IsS59.drew | apply IsS59.set_1 | refine IsS59.far ?_ NB269_273.out _) | exact HI269.out)) hb); have n1_ := Aside0.mk (blk_below (g := gb273) (o := .cells #[.int .i64 t270, .string t271] 29 (0, 0)) (by (with_reducible repeat (first | refine blk_drewN ?_ _ | refine blk_drew ?_ | refine blk_alloc ?_ _)); refine blk_put (cs := #[.int .i64 t270, .string (⟨#[]⟩ : ByteArray)]) ?_ 1 _ rfl; (with_reducible repeat (first | refine blk_drewN ?_ _ | refine blk_drew ?_ | refine blk_alloc ?_ _)); refine blk_put (cs := #[.int .i64 0, .string (⟨#[]⟩ : ByteArray)]) ?_ 0 _ rfl; (with_reducible repeat (first | refine blk_drewN ?_ _ | refine blk_drew ?_ | refine blk_alloc ?_ _)); exact BK273.out) hb); have n2_ := Aside0.mk (below_step (by repeat (first | (with_reducible first | exact HB.out | apply below_alloc | apply pw_below_drewN | apply below_drew1 | refine below_set ?_ (IsS59.ge HI269.out) | refine below_set ?_ GE273.out) | exact HB.out)) hb); clear HI269; clear BK273; clear HB; have HI269 := n0_; have BK273 := n1_; have HB := n2_; clear n0_ n1_ n2_; (try clear hb); (try clear hb2); (try clear hk); (try clear hi)) | ((with_reducible refine gate_callee (f := 20) rfl ?_); refine goesL_ (some 30) rfl rfl Try.func20 (by kernel_rfl) rfl #[.int .i64 a1, .int .i64 8] rfl (by (try simp only [List.map_toArray, List.map_cons, List.map_nil]); first | done | rfl | (simp only [List.length_drop, List.length_take]; rfl)) ?_; (with_reducible refine (keyeventkit_Mod.calls a1 8 t276 _ A17.out).mono ?_); rintro e w' ⟨rfl, ⟨nd, rfl⟩⟩; refine ⟨_, rfl, ?_⟩) | ((with_reducible refine gate_callee (f := 21) rfl ?_); refine goesL_ (some 35) rfl rfl Try.func21 (by kernel_rfl) rfl #[.int .i64 (wrap64 (1 + t276)), .string t274] rfl (by (try simp only [List.map_toArray, List.map_cons, List.map_nil]); first | done | rfl | (simp only [List.length_drop, List.length_take]; rfl)) ?_; (with_reducible refine (primitive_Open.calls k (wrap64 (1 + t276)) t274 t277 t278 _ A18.out).mono ?_); rintro e w37 ⟨rfl, hb⟩; refine ⟨_, rfl, ?_⟩; have n0_ := Aside0.mk (IsS59.below (by repeat (first | (with_reducible first | exact HI269.out | apply IsS59.alloc | apply IsS59.drewN | apply IsS59.drew | apply IsS59.set_1 | refine IsS59.far ?_ NB269_273.out _) | exact HI269.out)) hb); have n1_ := Aside0.mk (blk_below (g := gb273) (o := .cells #[.int .i64 t270, .string t271] 29 (0, 0)) (by (with_reducible repeat (first | refine blk_drewN ?_ _ | refine blk_drew ?_ | refine blk_alloc ?_ _)); exact BK273.out) hb); have n2_ := Aside0.mk (below_step (by repeat (first | (with_reducible first | exact HB.out | apply below_alloc | apply pw_below_drewN | apply below_drew1 | refine below_set ?_ (IsS59.ge HI269.out) | refine below_set ?_ GE273.out) | exact HB.out)) hb); clear HI269; clear BK273; clear HB; have HI269 := n0_; have BK273 := n1_; have HB := n2_; clear n0_ n1_ n2_; (try clear hb); (try clear hb2); (try clear hk); (try clear hi); have hcz38_0 : w37.cell? ⟨gb273, 0, none⟩ = some (.int .i64 t270) := (blk_cell BK273.out 0).trans rfl; have hcz38_1 : w37.cell? ⟨gb273, 1, none⟩ = some (.string t271) := (blk_cell BK273.out 1).trans rfl; have hfz38_0 := blk_frozen BK273.out 0; have hfz38_1 := blk_frozen BK273.out 1) | ((with_reducible refine gate_callee (f := 21) rfl ?_); refine goesL_ (some 43) rfl rfl Try.func21 (by kernel_rfl) rfl #[.int .i64 t270, .string (t274 ++ (⟨#[65]⟩ : ByteArray))] rfl (by (try simp only [List.map_toArray, List.map_cons, List.map_nil]); first | done | rfl | (simp only [List.length_drop, List.length_take]; rfl)) ?_; (with_reducible refine (primitive_Open.calls k t270 (t274 ++ (⟨#[65]⟩ : ByteArray)) t279 t280 _ A20.out).mono ?_); rintro e w39 ⟨rfl, hb⟩; refine ⟨_, rfl, ?_⟩; have n0_ := Aside0.mk (IsS59.below (by repeat (first | (with_reducible first | exact HI269.out | apply IsS59.alloc | apply IsS59.drewN | apply IsS59.drew | apply IsS59.set_1 | refine IsS59.far ?_ NB269_273.out _) | exact HI269.out)) hb); have n1_ := Aside0.mk (blk_below (g := gb273) (o := .cells #[.int .i64 t270, .string t271] 29 (0, 0)) (by (with_reducible repeat (first | refine blk_drewN ?_ _ | refine blk_drew ?_ | refine blk_alloc ?_ _)); exact BK273.out) hb); have n2_ := Aside0.mk (below_step (by repeat (first | (with_reducible first | exact HB.out | apply below_alloc | apply pw_below_drewN | apply below_drew1 | refine below_set ?_ (IsS59.ge HI269.out) | refine below_set ?_ GE273.out) | exact HB.out)) hb); clear HI269; clear BK273; clear HB; have HI269 := n0_; have BK273 := n1_; have HB := n2_; clear n0_ n1_ n2_; (try clear hb); (try clear hb2); (try clear hk); (try clear hi)))
                      have n0_ := Aside0.mk (blk_drew BK273.out)
                      have n1_ := Aside0.mk (IsS59.drew HI269.out)
                      have n2_ := Aside0.mk (below_drew1 HB.out)
                      clear BK273
                      clear HI269
                      clear HB
                      have BK273 := n0_
                      have HI269 := n1_
                      have HB := n2_
                      clear n0_ n1_ n2_
                      refine start_ (n := 13) (S := fun w' => w'.cell? ⟨gb273, 0, none⟩ = some (.int .i64 t270) ∧ w'.cell? ⟨gb273, 1, none⟩ = some (.string t271)) (ds := []) #[false, false, false, false, false, false, false, false, false, false, false, false, false] (by kernel_rfl) rfl rfl ⟨(blk_cell BK273.out 0).trans rfl, (blk_cell BK273.out 1).trans rfl⟩ (fun hHeld => ?_); refine with_tabW keyeventlaw03_PrimitiveOpens.tab10 keyeventlaw03_PrimitiveOpens.bits10 (fun HT_ HW_ => ?_)
                      generalize w39.drew = w40 at BK273 HI269 HB hHeld ⊢
                      refine pure_ (i := 0) (N := some 47) (v := ?_) (a' := ?_) #[true, false, false, false, false, false, false, false, false, false, false, false, false] rfl rfl (any_of HT_.out (by kernel_rfl)) (fun _ _ _ h => h) (Or.inl ⟨by rfl, ?_⟩) ?_ ?_
                      rotate_left
                      · intro w'
                        go_simp
                        with_reducible rfl
                      rotate_left
                      · simp only [Act.put, List.setIfInBounds_toArray, List.set_cons_zero, List.set_cons_succ, i64_w, i32_w]
                        rfl
                      refine pure_ (i := 2) (N := some 49) (v := ?_) (a' := ?_) #[true, false, true, false, false, false, false, false, false, false, false, false, false] rfl rfl (any_of HT_.out (by kernel_rfl)) (fun _ _ _ h => h) (Or.inl ⟨by rfl, ?_⟩) ?_ ?_
                      rotate_left
                      · intro w'
                        go_simp
                        with_reducible rfl
                      rotate_left
                      · simp only [Act.put, List.setIfInBounds_toArray, List.set_cons_zero, List.set_cons_succ, i64_w, i32_w]
                        rfl
                      refine pure_ (i := 3) (N := some 50) (v := ?_) (a' := ?_) #[true, false, true, true, false, false, false, false, false, false, false, false, false] rfl rfl (any_of HT_.out (by kernel_rfl)) (fun _ _ _ h => h) (Or.inl ⟨by rfl, ?_⟩) ?_ ?_
                      rotate_left
                      · intro w'
                        go_simp
                        with_reducible rfl
                      rotate_left
                      · simp only [Act.put, List.setIfInBounds_toArray, List.set_cons_zero, List.set_cons_succ, i64_w, i32_w]
                        rfl
                      refine pure_ (i := 4) (N := some 51) (v := ?_) (a' := ?_) #[true, false, true, true, true, false, false, false, false, false, false, false, false] rfl rfl (any_of HT_.out (by kernel_rfl)) (fun _ _ _ h => h) (Or.inl ⟨by rfl, ?_⟩) ?_ ?_
                      rotate_left
                      · intro w'
                        go_simp
                        with_reducible rfl
                      rotate_left
                      · simp only [Act.put, List.setIfInBounds_toArray, List.set_cons_zero, List.set_cons_succ, i64_w, i32_w]
                        rfl
                      refine pure_ (i := 5) (N := some 52) (v := ?_) (a' := ?_) #[true, false, true, true, true, true, false, false, false, false, false, false, false] rfl rfl (any_of HT_.out (by kernel_rfl)) (fun _ _ _ h => h) (Or.inl ⟨by rfl, ?_⟩) ?_ ?_
                      rotate_left
                      · intro w'
                        go_simp
                        with_reducible rfl
                      rotate_left
                      · simp only [Act.put, List.setIfInBounds_toArray, List.set_cons_zero, List.set_cons_succ, i64_w, i32_w]
                        rfl
                      refine pure_ (i := 6) (N := some 53) (v := ?_) (a' := ?_) #[true, false, true, true, true, true, true, false, false, false, false, false, false] rfl rfl (any_of HT_.out (by kernel_rfl)) (fun _ _ _ h => h) (Or.inl ⟨by rfl, ?_⟩) ?_ ?_
                      rotate_left
                      · intro w'
                        go_simp
                        with_reducible rfl
                      rotate_left
                      · simp only [Act.put, List.setIfInBounds_toArray, List.set_cons_zero, List.set_cons_succ, i64_w, i32_w]
                        rfl
                      refine take_ (i := 1) (N := some 48) (v := ?_) (a' := ?_) #[true, true, true, true, true, true, true, false, false, false, false, false, false] rfl rfl (take_ofW HT_.out HW_.out (by kernel_rfl)) (fun _ _ _ h => h) (Or.inl ⟨by rfl, ?_⟩) hHeld ?_ ?_
                      rotate_left
                      · rintro w' ⟨s0, s1⟩
                        go_simp
                        with_reducible rfl
                      rotate_left
                      · simp only [Act.put, List.setIfInBounds_toArray, List.set_cons_zero, List.set_cons_succ, i64_w, i32_w]
                        rfl
                      refine one_ (i := 7) (N := some 54) #[true, true, true, true, true, true, true, true, false, false, false, false, false] rfl rfl (one_of HT_.out (by kernel_rfl)) (by decide) (fun K hK => ?_)
                      refine goes_ Try.func21 (by kernel_rfl) rfl #[.int .i64 t270, .string (t274.extract 0 ((ji21) : Int).toNat)] (by rfl) rfl rfl (by (try simp only [List.map_toArray, List.map_cons, List.map_nil]); first | done | (simp only [hji21]; rfl) | rfl | (simp only [List.length_drop, List.length_take]; rfl)) ?_
                      with_reducible refine (primitive_Open.calls k t270 (t274.extract 0 ((ji21) : Int).toNat) t281 t282 _ A24.out).mono ?_
                      rintro e w41 ⟨rfl, hb⟩
                      refine ⟨_, rfl, ?_⟩
                      have n0_ := Aside0.mk (IsS59.below (by repeat (first | (with_reducible first | exact HI269.out | apply IsS59.alloc | apply IsS59.drewN | apply IsS59.drew | apply IsS59.set_1 | refine IsS59.far ?_ NB269_273.out _) | exact HI269.out)) hb)
                      have n1_ := Aside0.mk (blk_below (g := gb273) (o := .cells #[.int .i64 t270, .string t271] 29 (0, 0)) (by (with_reducible repeat (first | refine blk_drewN ?_ _ | refine blk_drew ?_ | refine blk_alloc ?_ _)); exact BK273.out) hb)
                      have n2_ := Aside0.mk (below_step (by repeat (first | (with_reducible first | exact HB.out | apply below_alloc | apply pw_below_drewN | apply below_drew1 | refine below_set ?_ (IsS59.ge HI269.out) | refine below_set ?_ GE273.out) | exact HB.out)) hb)
                      clear HI269
                      clear BK273
                      clear HB
                      have HI269 := n0_
                      have BK273 := n1_
                      have HB := n2_
                      clear n0_ n1_ n2_
                      (try clear hb)
                      (try clear hb2)
                      (try clear hk)
                      (try clear hi)
                      refine hK.out _ _ ⟨(blk_cell BK273.out 0).trans rfl, (blk_cell BK273.out 1).trans rfl⟩ (fun hHeld => ?_)
                      clear hK K
                      refine norm_ (a' := ?_) ?_ ?_
                      rotate_left
                      · show Act.put _ (some 54) _ = _
                        simp only [Act.put, List.setIfInBounds_toArray, List.set_cons_zero, List.set_cons_succ, i64_w, i32_w]
                        rfl
                      refine pure_ (i := 8) (N := some 46) (v := ?_) (a' := ?_) #[true, true, true, true, true, true, true, true, true, false, false, false, false] rfl rfl (any_of HT_.out (by kernel_rfl)) (fun _ _ _ h => h) (Or.inl ⟨by rfl, ?_⟩) ?_ ?_
                      rotate_left
                      · intro w'
                        go_simp
                        with_reducible rfl
                      rotate_left
                      · simp only [Act.put, List.setIfInBounds_toArray, List.set_cons_zero, List.set_cons_succ, i64_w, i32_w]
                        rfl
                      refine pure_ (i := 9) (N := some 55) (v := ?_) (a' := ?_) #[true, true, true, true, true, true, true, true, true, true, false, false, false] rfl rfl (any_of HT_.out (by kernel_rfl)) (fun _ _ _ h => h) (Or.inl ⟨by rfl, ?_⟩) ?_ ?_
                      rotate_left
                      · intro w'
                        go_simp
                        with_reducible rfl
                      rotate_left
                      · simp only [Act.put, List.setIfInBounds_toArray, List.set_cons_zero, List.set_cons_succ, i64_w, i32_w]
                        rfl
                      refine pure_ (i := 10) (N := some 56) (v := ?_) (a' := ?_) #[true, true, true, true, true, true, true, true, true, true, true, false, false] rfl rfl (any_of HT_.out (by kernel_rfl)) (fun _ _ _ h => h) (Or.inl ⟨by rfl, ?_⟩) ?_ ?_
                      rotate_left
                      · intro w'
                        go_simp
                        with_reducible rfl
                      rotate_left
                      · simp only [Act.put, List.setIfInBounds_toArray, List.set_cons_zero, List.set_cons_succ, i64_w, i32_w]
                        rfl
                      refine pure_ (i := 11) (N := some 12) (v := ?_) (a' := ?_) #[true, true, true, true, true, true, true, true, true, true, true, true, false] rfl rfl (any_of HT_.out (by kernel_rfl)) (fun _ _ _ h => h) (Or.inl ⟨by rfl, ?_⟩) ?_ ?_
                      rotate_left
                      · intro w'
                        go_simp
                        with_reducible rfl
                      rotate_left
                      · simp only [Act.put, List.setIfInBounds_toArray, List.set_cons_zero, List.set_cons_succ, i64_w, i32_w]
                        rfl
                      refine pure_ (i := 12) (N := some 13) (v := ?_) (a' := ?_) #[true, true, true, true, true, true, true, true, true, true, true, true, true] rfl rfl (any_of HT_.out (by kernel_rfl)) (fun _ _ _ h => h) (Or.inl ⟨by rfl, ?_⟩) ?_ ?_
                      rotate_left
                      · intro w'
                        go_simp
                        with_reducible rfl
                      rotate_left
                      · simp only [Act.put, List.setIfInBounds_toArray, List.set_cons_zero, List.set_cons_succ, i64_w, i32_w]
                        rfl
                      refine done_ (done_of HT_.out (by kernel_rfl)) ?_
                      have hcz42_0 : w41.cell? ⟨gb273, 0, none⟩ = some (.int .i64 t270) := (blk_cell BK273.out 0).trans rfl
                      have hcz42_1 : w41.cell? ⟨gb273, 1, none⟩ = some (.string t271) := (blk_cell BK273.out 1).trans rfl
                      have hfz42_0 := blk_frozen BK273.out 0
                      have hfz42_1 := blk_frozen BK273.out 1
                      try go_wp2_with (first | (go_at_call 9; (with_reducible refine (keyeventlaw03_awake.calls k  t283 _ A30.out).mono ?_); rintro e w43 ⟨rfl, hb⟩; have n0_ := Aside0.mk (IsS59.below (by repeat (first | (with_reducible first | exact HI269.out | apply IsS59.alloc | apply IsS59.drewN | apply IsS59.drew | apply IsS59.set_1 | refine IsS59.far ?_ NB269_273.out _) | exact HI269.out)) hb); have n1_ := Aside0.mk (blk_below (g := gb273) (o := .cells #[.int .i64 t270, .string t271] 29 (0, 0)) (by (with_reducible repeat (first | refine blk_drewN ?_ _ | refine blk_drew ?_ | refine blk_alloc ?_ _)); exact BK273.out) hb); have n2_ := Aside0.mk (below_step (by repeat (first | (with_reducible first | exact HB.out | apply below_alloc | apply pw_below_drewN | apply below_drew1 | refine below_set ?_ (IsS59.ge HI269.out) | refine below_set ?_ GE273.out) | exact HB.out)) hb); clear HI269; clear BK273; clear HB; have HI269 := n0_; have BK273 := n1_; have HB := n2_; clear n0_ n1_ n2_; (try clear hb); (try clear hb2); (try clear hk); (try clear hi)))
                      go_ret
                      exact ⟨by first | rfl | (simp [errW_none, errW_some] <;> rfl) | (simp only [← hji21]; first | rfl | (simp [errW_none, errW_some] <;> rfl)) | (simp [*, errW_none, errW_some] <;> rfl), by repeat (first | (with_reducible first | exact HB.out | apply below_alloc | apply pw_below_drewN | apply below_drew1 | refine below_set ?_ (IsS59.ge HI269.out) | refine below_set ?_ GE273.out) | exact HB.out)⟩
                    · rw [if_neg c29] at H
                      have c29b0 : (t282 == 8) = false := beq_eq_false_iff_ne.mpr c29
                      have c29b1 : (t282 != 8) = true := bne_iff_ne.mpr c29
                      obtain rfl := Option.some.inj H
                      go_enter Try.func6, Try.ntmps6
                      try go_wp2_with (first | ((with_reducible refine gate_callee (f := 8) rfl ?_); refine goesL_ (some 15) rfl rfl Try.func8 (by kernel_rfl) rfl #[.slice A0 l0.length c0] rfl (by (try simp only [List.map_toArray, List.map_cons, List.map_nil]); first | done | rfl | (simp only [List.length_drop, List.length_take]; rfl)) ?_; (with_reducible refine (keyeventkit_Light.calls _ _ l0 true _ ?side1 ?side2 A3.out).mono ?_); (case side1 => repeat (first | exact HR0.out | (with_reducible refine Kd.C_alloc ?_ _) | (with_reducible refine Kd.C_drewN ?_ _) | (with_reducible refine Kd.C_drew ?_))); (case side2 => exact HC0.out); rintro e w' ⟨rfl, ⟨nd, rfl⟩⟩; refine ⟨_, rfl, ?_⟩) | ((with_reducible refine gate_callee (f := 12) rfl ?_); refine goesL_ (some 19) rfl rfl Try.func12 (by kernel_rfl) rfl #[.slice A0 l0.length c0] rfl (by (try simp only [List.map_toArray, List.map_cons, List.map_nil]); first | done | rfl | (simp only [List.length_drop, List.length_take]; rfl)) ?_; (with_reducible refine (keyeventkit_Roll.calls _ _ l0 t267 t268 w _ ?side1 ?side2 ?side3 A5.out).mono ?_); (case side1 => repeat (first | (with_reducible first | exact HB.out | apply below_alloc | apply pw_below_drewN | apply below_drew1) | exact HB.out)); (case side2 => exact HR0.out); (case side3 => exact HC0.out); rintro e w44 ⟨g269, rfl, hi, hb, hb2⟩; refine ⟨_, rfl, ?_⟩; have n0_ := Aside0.mk (hb); have n1_ := Aside0.mk (hi); clear HB; have HB := n0_; have HI269 := n1_; clear n0_ n1_; (try clear hb); (try clear hb2); (try clear hk); (try clear hi)) | ((with_reducible refine gate_callee (f := 11) rfl ?_); refine goesL_ (some 20) rfl rfl Try.func11 (by kernel_rfl) rfl #[.pointer (some ⟨g269, 0, none⟩)] rfl (by (try simp only [List.map_toArray, List.map_cons, List.map_nil]); first | done | rfl | (simp only [List.length_drop, List.length_take]; rfl)) ?_; (with_reducible refine (keyeventkit_Primitive.calls k g269 t267 t268 t270 t271 t272 w _ ?side1 ?side2 A6.out).mono ?_); (case side1 => repeat (first | (with_reducible first | exact HI269.out | apply IsS59.alloc | apply IsS59.drewN | apply IsS59.drew | apply IsS59.set_1) | exact HI269.out)); (case side2 => repeat (first | (with_reducible first | exact HB.out | apply below_alloc | apply pw_below_drewN | apply below_drew1 | refine below_set ?_ (IsS59.ge HI269.out)) | exact HB.out)); rintro e w45 ⟨rfl, hi, hb, hk⟩; refine ⟨_, rfl, ?_⟩; have n0_ := Aside0.mk (hb); have n1_ := Aside0.mk (hi); clear HB; clear HI269; have HB := n0_; have HI269 := n1_; clear n0_ n1_; (try clear hb); (try clear hb2); (try clear hk); (try clear hi)) | ((with_reducible refine gate_dst (N := 5) rfl ?_); refine box_event ?hg (N := 5) ?hd (cs := #[.int .i64 0, .string (⟨#[]⟩ : ByteArray)]) (t := 29) ?hr ?_; (case hd => rfl); (case hg => rfl); (case hr => first | (go_simp; done) | (go_simp; rfl)); intro gb273 hg w46 hbox hb; have n0_ := Aside0.mk (IsS59.below (by repeat (first | (with_reducible first | exact HI269.out | apply IsS59.alloc | apply IsS59.drewN | apply IsS59.drew | apply IsS59.set_1) | exact HI269.out)) hb); have n1_ := Aside0.mk (below_step (by repeat (first | (with_reducible first | exact HB.out | apply below_alloc | apply pw_below_drewN | apply below_drew1 | refine below_set ?_ (IsS59.ge HI269.out)) | exact HB.out)) hb); have n2_ := Aside0.mk (hbox); have n3_ := Aside0.mk ((by rw [hg]; exact (below_size (by repeat (first | (with_reducible first | exact HB.out | apply below_alloc | apply pw_below_drewN | apply below_drew1 | refine below_set ?_ (IsS59.ge HI269.out)) | exact HB.out))) : w.heap.size ≤ gb273)); have n4_ := Aside0.mk ((by rw [hg]; exact (below_size (by repeat (first | (with_reducible first | exact HB.out | apply below_alloc | apply pw_below_drewN | apply below_drew1 | refine below_set ?_ (IsS59.ge HI269.out)) | exact HB.out))) : w.heap.size ≤ gb273)); have n5_ := Aside0.mk ((by rw [hg]; exact Nat.ne_of_lt (IsS59.lt (show IsS59 w _ g269 t267 t272 from by repeat (first | (with_reducible first | exact HI269.out | apply IsS59.alloc | apply IsS59.drewN | apply IsS59.drew | apply IsS59.set_1) | exact HI269.out))) : g269 ≠ gb273)); have n6_ := Aside0.mk ((by rw [hg]; exact Nat.ne_of_gt (IsS59.lt (show IsS59 w _ g269 t267 t272 from by repeat (first | (with_reducible first | exact HI269.out | apply IsS59.alloc | apply IsS59.drewN | apply IsS59.drew | apply IsS59.set_1) | exact HI269.out))) : gb273 ≠ g269)); clear HI269; clear HB; have HI269 := n0_; have HB := n1_; have BK273 := n2_; have GW273 := n3_; have GE273 := n4_; have NB269_273 := n5_; have NB273_269 := n6_; clear n0_ n1_ n2_ n3_ n4_ n5_ n6_; clear hb hbox hg; have hnb47 := NB273_269.out; have hnc47 := NB269_273.out; have hcz48_0 : w46.cell? ⟨gb273, 0, none⟩ = some (.int .i64 0) := (blk_cell BK273.out 0).trans rfl; have hcz48_1 : w46.cell? ⟨gb273, 1, none⟩ = some (.string (⟨#[]⟩ : ByteArray)) := (blk_cell BK273.out 1).trans rfl; have hfz48_0 := blk_frozen BK273.out 0; have hfz48_1 := blk_frozen BK273.out 1) | ((with_reducible refine gate_callee (f := 19) rfl ?_); refine goesL_ (some 25) rfl rfl Try.func19 (by kernel_rfl) rfl #[.int .i64 t270, .string t271] rfl (by (try simp only [List.map_toArray, List.map_cons, List.map_nil]); first | done | rfl | (simp only [List.length_drop, List.length_take]; rfl)) ?_; (with_reducible refine (primitive_Make.calls k t270 t271 t274 _ A7.out).mono ?_); rintro e w49 ⟨rfl, hb⟩; refine ⟨_, rfl, ?_⟩; have n0_ := Aside0.mk (IsS59.below (show IsS59 w ((w46.setCell ⟨gb273, 0, none⟩ (.int .i64 t270)).setCell ⟨gb273, 1, none⟩ (.string t271)) g269 t267 t272 from by repeat (first | (with_reducible first | exact HI269.out | apply IsS59.alloc | apply IsS59.drewN | apply IsS59.drew | apply IsS59.set_1 | refine IsS59.far ?_ NB269_273.out _) | exact HI269.out)) hb); have n1_ := Aside0.mk (blk_below (g := gb273) (o := .cells #[.int .i64 t270, .string t271] 29 (0, 0)) (by (with_reducible repeat (first | refine blk_drewN ?_ _ | refine blk_drew ?_ | refine blk_alloc ?_ _)); refine blk_put (cs := #[.int .i64 t270, .string (⟨#[]⟩ : ByteArray)]) ?_ 1 _ rfl; (with_reducible repeat (first | refine blk_drewN ?_ _ | refine blk_drew ?_ | refine blk_alloc ?_ _)); refine blk_put (cs := #[.int .i64 0, .string (⟨#[]⟩ : ByteArray)]) ?_ 0 _ rfl; (with_reducible repeat (first | refine blk_drewN ?_ _ | refine blk_drew ?_ | refine blk_alloc ?_ _)); exact BK273.out) hb); have n2_ := Aside0.mk (below_step (by repeat (first | (with_reducible first | exact HB.out | apply below_alloc | apply pw_below_drewN | apply below_drew1 | refine below_set ?_ (IsS59.ge HI269.out) | refine below_set ?_ GE273.out) | exact HB.out)) hb); clear HI269; clear BK273; clear HB; have HI269 := n0_; have BK273 := n1_; have HB := n2_; clear n0_ n1_ n2_; (try clear hb); (try clear hb2); (try clear hk); (try clear hi)) | ((with_reducible refine gate_callee (f := 20) rfl ?_); refine goesL_ (some 30) rfl rfl Try.func20 (by kernel_rfl) rfl #[.int .i64 a1, .int .i64 8] rfl (by (try simp only [List.map_toArray, List.map_cons, List.map_nil]); first | done | rfl | (simp only [List.length_drop, List.length_take]; rfl)) ?_; (with_reducible refine (keyeventkit_Mod.calls a1 8 t276 _ A17.out).mono ?_); rintro e w' ⟨rfl, ⟨nd, rfl⟩⟩; refine ⟨_, rfl, ?_⟩) | ((with_reducible refine gate_callee (f := 21) rfl ?_); refine goesL_ (some 35) rfl rfl Try.func21 (by kernel_rfl) rfl #[.int .i64 (wrap64 (1 + t276)), .string t274] rfl (by (try simp only [List.map_toArray, List.map_cons, List.map_nil]); first | done | rfl | (simp only [List.length_drop, List.length_take]; rfl)) ?_; (with_reducible refine (primitive_Open.calls k (wrap64 (1 + t276)) t274 t277 t278 _ A18.out).mono ?_); rintro e w50 ⟨rfl, hb⟩; refine ⟨_, rfl, ?_⟩; have n0_ := Aside0.mk (IsS59.below (by repeat (first | (with_reducible first | exact HI269.out | apply IsS59.alloc | apply IsS59.drewN | apply IsS59.drew | apply IsS59.set_1 | refine IsS59.far ?_ NB269_273.out _) | exact HI269.out)) hb); have n1_ := Aside0.mk (blk_below (g := gb273) (o := .cells #[.int .i64 t270, .string t271] 29 (0, 0)) (by (with_reducible repeat (first | refine blk_drewN ?_ _ | refine blk_drew ?_ | refine blk_alloc ?_ _)); exact BK273.out) hb); have n2_ := Aside0.mk (below_step (by repeat (first | (with_reducible first | exact HB.out | apply below_alloc | apply pw_below_drewN | apply below_drew1 | refine below_set ?_ (IsS59.ge HI269.out) | refine below_set ?_ GE273.out) | exact HB.out)) hb); clear HI269; clear BK273; clear HB; have HI269 := n0_; have BK273 := n1_; have HB := n2_; clear n0_ n1_ n2_; (try clear hb); (try clear hb2); (try clear hk); (try clear hi); have hcz51_0 : w50.cell? ⟨gb273, 0, none⟩ = some (.int .i64 t270) := (blk_cell BK273.out 0).trans rfl; have hcz51_1 : w50.cell? ⟨gb273, 1, none⟩ = some (.string t271) := (blk_cell BK273.out 1).trans rfl; have hfz51_0 := blk_frozen BK273.out 0; have hfz51_1 := blk_frozen BK273.out 1) | ((with_reducible refine gate_callee (f := 21) rfl ?_); refine goesL_ (some 43) rfl rfl Try.func21 (by kernel_rfl) rfl #[.int .i64 t270, .string (t274 ++ (⟨#[65]⟩ : ByteArray))] rfl (by (try simp only [List.map_toArray, List.map_cons, List.map_nil]); first | done | rfl | (simp only [List.length_drop, List.length_take]; rfl)) ?_; (with_reducible refine (primitive_Open.calls k t270 (t274 ++ (⟨#[65]⟩ : ByteArray)) t279 t280 _ A20.out).mono ?_); rintro e w52 ⟨rfl, hb⟩; refine ⟨_, rfl, ?_⟩; have n0_ := Aside0.mk (IsS59.below (by repeat (first | (with_reducible first | exact HI269.out | apply IsS59.alloc | apply IsS59.drewN | apply IsS59.drew | apply IsS59.set_1 | refine IsS59.far ?_ NB269_273.out _) | exact HI269.out)) hb); have n1_ := Aside0.mk (blk_below (g := gb273) (o := .cells #[.int .i64 t270, .string t271] 29 (0, 0)) (by (with_reducible repeat (first | refine blk_drewN ?_ _ | refine blk_drew ?_ | refine blk_alloc ?_ _)); exact BK273.out) hb); have n2_ := Aside0.mk (below_step (by repeat (first | (with_reducible first | exact HB.out | apply below_alloc | apply pw_below_drewN | apply below_drew1 | refine below_set ?_ (IsS59.ge HI269.out) | refine below_set ?_ GE273.out) | exact HB.out)) hb); clear HI269; clear BK273; clear HB; have HI269 := n0_; have BK273 := n1_; have HB := n2_; clear n0_ n1_ n2_; (try clear hb); (try clear hb2); (try clear hk); (try clear hi)))
                      have n0_ := Aside0.mk (blk_drew BK273.out)
                      have n1_ := Aside0.mk (IsS59.drew HI269.out)
                      have n2_ := Aside0.mk (below_drew1 HB.out)
                      clear BK273
                      clear HI269
                      clear HB
                      have BK273 := n0_
                      have HI269 := n1_
                      have HB := n2_
                      clear n0_ n1_ n2_
                      refine start_ (n := 13) (S := fun w' => w'.cell? ⟨gb273, 0, none⟩ = some (.int .i64 t270) ∧ w'.cell? ⟨gb273, 1, none⟩ = some (.string t271)) (ds := []) #[false, false, false, false, false, false, false, false, false, false, false, false, false] (by kernel_rfl) rfl rfl ⟨(blk_cell BK273.out 0).trans rfl, (blk_cell BK273.out 1).trans rfl⟩ (fun hHeld => ?_); refine with_tabW keyeventlaw03_PrimitiveOpens.tab10 keyeventlaw03_PrimitiveOpens.bits10 (fun HT_ HW_ => ?_)
                      generalize w52.drew = w53 at BK273 HI269 HB hHeld ⊢
                      refine pure_ (i := 0) (N := some 47) (v := ?_) (a' := ?_) #[true, false, false, false, false, false, false, false, false, false, false, false, false] rfl rfl (any_of HT_.out (by kernel_rfl)) (fun _ _ _ h => h) (Or.inl ⟨by rfl, ?_⟩) ?_ ?_
                      rotate_left
                      · intro w'
                        go_simp
                        with_reducible rfl
                      rotate_left
                      · simp only [Act.put, List.setIfInBounds_toArray, List.set_cons_zero, List.set_cons_succ, i64_w, i32_w]
                        rfl
                      refine pure_ (i := 2) (N := some 49) (v := ?_) (a' := ?_) #[true, false, true, false, false, false, false, false, false, false, false, false, false] rfl rfl (any_of HT_.out (by kernel_rfl)) (fun _ _ _ h => h) (Or.inl ⟨by rfl, ?_⟩) ?_ ?_
                      rotate_left
                      · intro w'
                        go_simp
                        with_reducible rfl
                      rotate_left
                      · simp only [Act.put, List.setIfInBounds_toArray, List.set_cons_zero, List.set_cons_succ, i64_w, i32_w]
                        rfl
                      refine pure_ (i := 3) (N := some 50) (v := ?_) (a' := ?_) #[true, false, true, true, false, false, false, false, false, false, false, false, false] rfl rfl (any_of HT_.out (by kernel_rfl)) (fun _ _ _ h => h) (Or.inl ⟨by rfl, ?_⟩) ?_ ?_
                      rotate_left
                      · intro w'
                        go_simp
                        with_reducible rfl
                      rotate_left
                      · simp only [Act.put, List.setIfInBounds_toArray, List.set_cons_zero, List.set_cons_succ, i64_w, i32_w]
                        rfl
                      refine pure_ (i := 4) (N := some 51) (v := ?_) (a' := ?_) #[true, false, true, true, true, false, false, false, false, false, false, false, false] rfl rfl (any_of HT_.out (by kernel_rfl)) (fun _ _ _ h => h) (Or.inl ⟨by rfl, ?_⟩) ?_ ?_
                      rotate_left
                      · intro w'
                        go_simp
                        with_reducible rfl
                      rotate_left
                      · simp only [Act.put, List.setIfInBounds_toArray, List.set_cons_zero, List.set_cons_succ, i64_w, i32_w]
                        rfl
                      refine pure_ (i := 5) (N := some 52) (v := ?_) (a' := ?_) #[true, false, true, true, true, true, false, false, false, false, false, false, false] rfl rfl (any_of HT_.out (by kernel_rfl)) (fun _ _ _ h => h) (Or.inl ⟨by rfl, ?_⟩) ?_ ?_
                      rotate_left
                      · intro w'
                        go_simp
                        with_reducible rfl
                      rotate_left
                      · simp only [Act.put, List.setIfInBounds_toArray, List.set_cons_zero, List.set_cons_succ, i64_w, i32_w]
                        rfl
                      refine pure_ (i := 6) (N := some 53) (v := ?_) (a' := ?_) #[true, false, true, true, true, true, true, false, false, false, false, false, false] rfl rfl (any_of HT_.out (by kernel_rfl)) (fun _ _ _ h => h) (Or.inl ⟨by rfl, ?_⟩) ?_ ?_
                      rotate_left
                      · intro w'
                        go_simp
                        with_reducible rfl
                      rotate_left
                      · simp only [Act.put, List.setIfInBounds_toArray, List.set_cons_zero, List.set_cons_succ, i64_w, i32_w]
                        rfl
                      refine take_ (i := 1) (N := some 48) (v := ?_) (a' := ?_) #[true, true, true, true, true, true, true, false, false, false, false, false, false] rfl rfl (take_ofW HT_.out HW_.out (by kernel_rfl)) (fun _ _ _ h => h) (Or.inl ⟨by rfl, ?_⟩) hHeld ?_ ?_
                      rotate_left
                      · rintro w' ⟨s0, s1⟩
                        go_simp
                        with_reducible rfl
                      rotate_left
                      · simp only [Act.put, List.setIfInBounds_toArray, List.set_cons_zero, List.set_cons_succ, i64_w, i32_w]
                        rfl
                      refine one_ (i := 7) (N := some 54) #[true, true, true, true, true, true, true, true, false, false, false, false, false] rfl rfl (one_of HT_.out (by kernel_rfl)) (by decide) (fun K hK => ?_)
                      refine goes_ Try.func21 (by kernel_rfl) rfl #[.int .i64 t270, .string (t274.extract 0 ((ji21) : Int).toNat)] (by rfl) rfl rfl (by (try simp only [List.map_toArray, List.map_cons, List.map_nil]); first | done | (simp only [hji21]; rfl) | rfl | (simp only [List.length_drop, List.length_take]; rfl)) ?_
                      with_reducible refine (primitive_Open.calls k t270 (t274.extract 0 ((ji21) : Int).toNat) t281 t282 _ A24.out).mono ?_
                      rintro e w54 ⟨rfl, hb⟩
                      refine ⟨_, rfl, ?_⟩
                      have n0_ := Aside0.mk (IsS59.below (by repeat (first | (with_reducible first | exact HI269.out | apply IsS59.alloc | apply IsS59.drewN | apply IsS59.drew | apply IsS59.set_1 | refine IsS59.far ?_ NB269_273.out _) | exact HI269.out)) hb)
                      have n1_ := Aside0.mk (blk_below (g := gb273) (o := .cells #[.int .i64 t270, .string t271] 29 (0, 0)) (by (with_reducible repeat (first | refine blk_drewN ?_ _ | refine blk_drew ?_ | refine blk_alloc ?_ _)); exact BK273.out) hb)
                      have n2_ := Aside0.mk (below_step (by repeat (first | (with_reducible first | exact HB.out | apply below_alloc | apply pw_below_drewN | apply below_drew1 | refine below_set ?_ (IsS59.ge HI269.out) | refine below_set ?_ GE273.out) | exact HB.out)) hb)
                      clear HI269
                      clear BK273
                      clear HB
                      have HI269 := n0_
                      have BK273 := n1_
                      have HB := n2_
                      clear n0_ n1_ n2_
                      (try clear hb)
                      (try clear hb2)
                      (try clear hk)
                      (try clear hi)
                      refine hK.out _ _ ⟨(blk_cell BK273.out 0).trans rfl, (blk_cell BK273.out 1).trans rfl⟩ (fun hHeld => ?_)
                      clear hK K
                      refine norm_ (a' := ?_) ?_ ?_
                      rotate_left
                      · show Act.put _ (some 54) _ = _
                        simp only [Act.put, List.setIfInBounds_toArray, List.set_cons_zero, List.set_cons_succ, i64_w, i32_w]
                        rfl
                      refine pure_ (i := 8) (N := some 46) (v := ?_) (a' := ?_) #[true, true, true, true, true, true, true, true, true, false, false, false, false] rfl rfl (any_of HT_.out (by kernel_rfl)) (fun _ _ _ h => h) (Or.inl ⟨by rfl, ?_⟩) ?_ ?_
                      rotate_left
                      · intro w'
                        go_simp
                        with_reducible rfl
                      rotate_left
                      · simp only [Act.put, List.setIfInBounds_toArray, List.set_cons_zero, List.set_cons_succ, i64_w, i32_w]
                        rfl
                      refine pure_ (i := 9) (N := some 55) (v := ?_) (a' := ?_) #[true, true, true, true, true, true, true, true, true, true, false, false, false] rfl rfl (any_of HT_.out (by kernel_rfl)) (fun _ _ _ h => h) (Or.inl ⟨by rfl, ?_⟩) ?_ ?_
                      rotate_left
                      · intro w'
                        go_simp
                        with_reducible rfl
                      rotate_left
                      · simp only [Act.put, List.setIfInBounds_toArray, List.set_cons_zero, List.set_cons_succ, i64_w, i32_w]
                        rfl
                      refine pure_ (i := 10) (N := some 56) (v := ?_) (a' := ?_) #[true, true, true, true, true, true, true, true, true, true, true, false, false] rfl rfl (any_of HT_.out (by kernel_rfl)) (fun _ _ _ h => h) (Or.inl ⟨by rfl, ?_⟩) ?_ ?_
                      rotate_left
                      · intro w'
                        go_simp
                        with_reducible rfl
                      rotate_left
                      · simp only [Act.put, List.setIfInBounds_toArray, List.set_cons_zero, List.set_cons_succ, i64_w, i32_w]
                        rfl
                      refine pure_ (i := 11) (N := some 12) (v := ?_) (a' := ?_) #[true, true, true, true, true, true, true, true, true, true, true, true, false] rfl rfl (any_of HT_.out (by kernel_rfl)) (fun _ _ _ h => h) (Or.inl ⟨by rfl, ?_⟩) ?_ ?_
                      rotate_left
                      · intro w'
                        go_simp
                        with_reducible rfl
                      rotate_left
                      · simp only [Act.put, List.setIfInBounds_toArray, List.set_cons_zero, List.set_cons_succ, i64_w, i32_w]
                        rfl
                      refine pure_ (i := 12) (N := some 13) (v := ?_) (a' := ?_) #[true, true, true, true, true, true, true, true, true, true, true, true, true] rfl rfl (any_of HT_.out (by kernel_rfl)) (fun _ _ _ h => h) (Or.inl ⟨by rfl, ?_⟩) ?_ ?_
                      rotate_left
                      · intro w'
                        go_simp
                        with_reducible rfl
                      rotate_left
                      · simp only [Act.put, List.setIfInBounds_toArray, List.set_cons_zero, List.set_cons_succ, i64_w, i32_w]
                        rfl
                      refine done_ (done_of HT_.out (by kernel_rfl)) ?_
                      have hcz55_0 : w54.cell? ⟨gb273, 0, none⟩ = some (.int .i64 t270) := (blk_cell BK273.out 0).trans rfl
                      have hcz55_1 : w54.cell? ⟨gb273, 1, none⟩ = some (.string t271) := (blk_cell BK273.out 1).trans rfl
                      have hfz55_0 := blk_frozen BK273.out 0
                      have hfz55_1 := blk_frozen BK273.out 1
                      try go_wp2
                      go_ret
                      exact ⟨by first | rfl | (simp [errW_none, errW_some] <;> rfl) | (simp only [← hji21]; first | rfl | (simp [errW_none, errW_some] <;> rfl)) | (simp [*, errW_none, errW_some] <;> rfl), by repeat (first | (with_reducible first | exact HB.out | apply below_alloc | apply pw_below_drewN | apply below_drew1 | refine below_set ?_ (IsS59.ge HI269.out) | refine below_set ?_ GE273.out) | exact HB.out)⟩
                  · rw [if_neg c28] at H
                    have c28b0 : (t280 == 8) = false := beq_eq_false_iff_ne.mpr c28
                    have c28b1 : (t280 != 8) = true := bne_iff_ne.mpr c28
                    obtain rfl := Option.some.inj H
                    go_enter Try.func6, Try.ntmps6
                    try go_wp2_with (first | ((with_reducible refine gate_callee (f := 8) rfl ?_); refine goesL_ (some 15) rfl rfl Try.func8 (by kernel_rfl) rfl #[.slice A0 l0.length c0] rfl (by (try simp only [List.map_toArray, List.map_cons, List.map_nil]); first | done | rfl | (simp only [List.length_drop, List.length_take]; rfl)) ?_; (with_reducible refine (keyeventkit_Light.calls _ _ l0 true _ ?side1 ?side2 A3.out).mono ?_); (case side1 => repeat (first | exact HR0.out | (with_reducible refine Kd.C_alloc ?_ _) | (with_reducible refine Kd.C_drewN ?_ _) | (with_reducible refine Kd.C_drew ?_))); (case side2 => exact HC0.out); rintro e w' ⟨rfl, ⟨nd, rfl⟩⟩; refine ⟨_, rfl, ?_⟩) | ((with_reducible refine gate_callee (f := 12) rfl ?_); refine goesL_ (some 19) rfl rfl Try.func12 (by kernel_rfl) rfl #[.slice A0 l0.length c0] rfl (by (try simp only [List.map_toArray, List.map_cons, List.map_nil]); first | done | rfl | (simp only [List.length_drop, List.length_take]; rfl)) ?_; (with_reducible refine (keyeventkit_Roll.calls _ _ l0 t267 t268 w _ ?side1 ?side2 ?side3 A5.out).mono ?_); (case side1 => repeat (first | (with_reducible first | exact HB.out | apply below_alloc | apply pw_below_drewN | apply below_drew1) | exact HB.out)); (case side2 => exact HR0.out); (case side3 => exact HC0.out); rintro e w56 ⟨g269, rfl, hi, hb, hb2⟩; refine ⟨_, rfl, ?_⟩; have n0_ := Aside0.mk (hb); have n1_ := Aside0.mk (hi); clear HB; have HB := n0_; have HI269 := n1_; clear n0_ n1_; (try clear hb); (try clear hb2); (try clear hk); (try clear hi)) | ((with_reducible refine gate_callee (f := 11) rfl ?_); refine goesL_ (some 20) rfl rfl Try.func11 (by kernel_rfl) rfl #[.pointer (some ⟨g269, 0, none⟩)] rfl (by (try simp only [List.map_toArray, List.map_cons, List.map_nil]); first | done | rfl | (simp only [List.length_drop, List.length_take]; rfl)) ?_; (with_reducible refine (keyeventkit_Primitive.calls k g269 t267 t268 t270 t271 t272 w _ ?side1 ?side2 A6.out).mono ?_); (case side1 => repeat (first | (with_reducible first | exact HI269.out | apply IsS59.alloc | apply IsS59.drewN | apply IsS59.drew | apply IsS59.set_1) | exact HI269.out)); (case side2 => repeat (first | (with_reducible first | exact HB.out | apply below_alloc | apply pw_below_drewN | apply below_drew1 | refine below_set ?_ (IsS59.ge HI269.out)) | exact HB.out)); rintro e w57 ⟨rfl, hi, hb, hk⟩; refine ⟨_, rfl, ?_⟩; have n0_ := Aside0.mk (hb); have n1_ := Aside0.mk (hi); clear HB; clear HI269; have HB := n0_; have HI269 := n1_; clear n0_ n1_; (try clear hb); (try clear hb2); (try clear hk); (try clear hi)) | ((with_reducible refine gate_dst (N := 5) rfl ?_); refine box_event ?hg (N := 5) ?hd (cs := #[.int .i64 0, .string (⟨#[]⟩ : ByteArray)]) (t := 29) ?hr ?_; (case hd => rfl); (case hg => rfl); (case hr => first | (go_simp; done) | (go_simp; rfl)); intro gb273 hg w58 hbox hb; have n0_ := Aside0.mk (IsS59.below (by repeat (first | (with_reducible first | exact HI269.out | apply IsS59.alloc | apply IsS59.drewN | apply IsS59.drew | apply IsS59.set_1) | exact HI269.out)) hb); have n1_ := Aside0.mk (below_step (by repeat (first | (with_reducible first | exact HB.out | apply below_alloc | apply pw_below_drewN | apply below_drew1 | refine below_set ?_ (IsS59.ge HI269.out)) | exact HB.out)) hb); have n2_ := Aside0.mk (hbox); have n3_ := Aside0.mk ((by rw [hg]; exact (below_size (by repeat (first | (with_reducible first | exact HB.out | apply below_alloc | apply pw_below_drewN | apply below_drew1 | refine below_set ?_ (IsS59.ge HI269.out)) | exact HB.out))) : w.heap.size ≤ gb273)); have n4_ := Aside0.mk ((by rw [hg]; exact (below_size (by repeat (first | (with_reducible first | exact HB.out | apply below_alloc | apply pw_below_drewN | apply below_drew1 | refine below_set ?_ (IsS59.ge HI269.out)) | exact HB.out))) : w.heap.size ≤ gb273)); have n5_ := Aside0.mk ((by rw [hg]; exact Nat.ne_of_lt (IsS59.lt (show IsS59 w _ g269 t267 t272 from by repeat (first | (with_reducible first | exact HI269.out | apply IsS59.alloc | apply IsS59.drewN | apply IsS59.drew | apply IsS59.set_1) | exact HI269.out))) : g269 ≠ gb273)); have n6_ := Aside0.mk ((by rw [hg]; exact Nat.ne_of_gt (IsS59.lt (show IsS59 w _ g269 t267 t272 from by repeat (first | (with_reducible first | exact HI269.out | apply IsS59.alloc | apply IsS59.drewN | apply IsS59.drew | apply IsS59.set_1) | exact HI269.out))) : gb273 ≠ g269)); clear HI269; clear HB; have HI269 := n0_; have HB := n1_; have BK273 := n2_; have GW273 := n3_; have GE273 := n4_; have NB269_273 := n5_; have NB273_269 := n6_; clear n0_ n1_ n2_ n3_ n4_ n5_ n6_; clear hb hbox hg; have hnb59 := NB273_269.out; have hnc59 := NB269_273.out; have hcz60_0 : w58.cell? ⟨gb273, 0, none⟩ = some (.int .i64 0) := (blk_cell BK273.out 0).trans rfl; have hcz60_1 : w58.cell? ⟨gb273, 1, none⟩ = some (.string (⟨#[]⟩ : ByteArray)) := (blk_cell BK273.out 1).trans rfl; have hfz60_0 := blk_frozen BK273.out 0; have hfz60_1 := blk_frozen BK273.out 1) | ((with_reducible refine gate_callee (f := 19) rfl ?_); refine goesL_ (some 25) rfl rfl Try.func19 (by kernel_rfl) rfl #[.int .i64 t270, .string t271] rfl (by (try simp only [List.map_toArray, List.map_cons, List.map_nil]); first | done | rfl | (simp only [List.length_drop, List.length_take]; rfl)) ?_; (with_reducible refine (primitive_Make.calls k t270 t271 t274 _ A7.out).mono ?_); rintro e w61 ⟨rfl, hb⟩; refine ⟨_, rfl, ?_⟩; have n0_ := Aside0.mk (IsS59.below (show IsS59 w ((w58.setCell ⟨gb273, 0, none⟩ (.int .i64 t270)).setCell ⟨gb273, 1, none⟩ (.string t271)) g269 t267 t272 from by repeat (first | (with_reducible first | exact HI269.out | apply IsS59.alloc | apply IsS59.drewN | apply IsS59.drew | apply IsS59.set_1 | refine IsS59.far ?_ NB269_273.out _) | exact HI269.out)) hb); have n1_ := Aside0.mk (blk_below (g := gb273) (o := .cells #[.int .i64 t270, .string t271] 29 (0, 0)) (by (with_reducible repeat (first | refine blk_drewN ?_ _ | refine blk_drew ?_ | refine blk_alloc ?_ _)); refine blk_put (cs := #[.int .i64 t270, .string (⟨#[]⟩ : ByteArray)]) ?_ 1 _ rfl; (with_reducible repeat (first | refine blk_drewN ?_ _ | refine blk_drew ?_ | refine blk_alloc ?_ _)); refine blk_put (cs := #[.int .i64 0, .string (⟨#[]⟩ : ByteArray)]) ?_ 0 _ rfl; (with_reducible repeat (first | refine blk_drewN ?_ _ | refine blk_drew ?_ | refine blk_alloc ?_ _)); exact BK273.out) hb); have n2_ := Aside0.mk (below_step (by repeat (first | (with_reducible first | exact HB.out | apply below_alloc | apply pw_below_drewN | apply below_drew1 | refine below_set ?_ (IsS59.ge HI269.out) | refine below_set ?_ GE273.out) | exact HB.out)) hb); clear HI269; clear BK273; clear HB; have HI269 := n0_; have BK273 := n1_; have HB := n2_; clear n0_ n1_ n2_; (try clear hb); (try clear hb2); (try clear hk); (try clear hi)) | ((with_reducible refine gate_callee (f := 20) rfl ?_); refine goesL_ (some 30) rfl rfl Try.func20 (by kernel_rfl) rfl #[.int .i64 a1, .int .i64 8] rfl (by (try simp only [List.map_toArray, List.map_cons, List.map_nil]); first | done | rfl | (simp only [List.length_drop, List.length_take]; rfl)) ?_; (with_reducible refine (keyeventkit_Mod.calls a1 8 t276 _ A17.out).mono ?_); rintro e w' ⟨rfl, ⟨nd, rfl⟩⟩; refine ⟨_, rfl, ?_⟩) | ((with_reducible refine gate_callee (f := 21) rfl ?_); refine goesL_ (some 35) rfl rfl Try.func21 (by kernel_rfl) rfl #[.int .i64 (wrap64 (1 + t276)), .string t274] rfl (by (try simp only [List.map_toArray, List.map_cons, List.map_nil]); first | done | rfl | (simp only [List.length_drop, List.length_take]; rfl)) ?_; (with_reducible refine (primitive_Open.calls k (wrap64 (1 + t276)) t274 t277 t278 _ A18.out).mono ?_); rintro e w62 ⟨rfl, hb⟩; refine ⟨_, rfl, ?_⟩; have n0_ := Aside0.mk (IsS59.below (by repeat (first | (with_reducible first | exact HI269.out | apply IsS59.alloc | apply IsS59.drewN | apply IsS59.drew | apply IsS59.set_1 | refine IsS59.far ?_ NB269_273.out _) | exact HI269.out)) hb); have n1_ := Aside0.mk (blk_below (g := gb273) (o := .cells #[.int .i64 t270, .string t271] 29 (0, 0)) (by (with_reducible repeat (first | refine blk_drewN ?_ _ | refine blk_drew ?_ | refine blk_alloc ?_ _)); exact BK273.out) hb); have n2_ := Aside0.mk (below_step (by repeat (first | (with_reducible first | exact HB.out | apply below_alloc | apply pw_below_drewN | apply below_drew1 | refine below_set ?_ (IsS59.ge HI269.out) | refine below_set ?_ GE273.out) | exact HB.out)) hb); clear HI269; clear BK273; clear HB; have HI269 := n0_; have BK273 := n1_; have HB := n2_; clear n0_ n1_ n2_; (try clear hb); (try clear hb2); (try clear hk); (try clear hi); have hcz63_0 : w62.cell? ⟨gb273, 0, none⟩ = some (.int .i64 t270) := (blk_cell BK273.out 0).trans rfl; have hcz63_1 : w62.cell? ⟨gb273, 1, none⟩ = some (.string t271) := (blk_cell BK273.out 1).trans rfl; have hfz63_0 := blk_frozen BK273.out 0; have hfz63_1 := blk_frozen BK273.out 1) | ((with_reducible refine gate_callee (f := 21) rfl ?_); refine goesL_ (some 43) rfl rfl Try.func21 (by kernel_rfl) rfl #[.int .i64 t270, .string (t274 ++ (⟨#[65]⟩ : ByteArray))] rfl (by (try simp only [List.map_toArray, List.map_cons, List.map_nil]); first | done | rfl | (simp only [List.length_drop, List.length_take]; rfl)) ?_; (with_reducible refine (primitive_Open.calls k t270 (t274 ++ (⟨#[65]⟩ : ByteArray)) t279 t280 _ A20.out).mono ?_); rintro e w64 ⟨rfl, hb⟩; refine ⟨_, rfl, ?_⟩; have n0_ := Aside0.mk (IsS59.below (by repeat (first | (with_reducible first | exact HI269.out | apply IsS59.alloc | apply IsS59.drewN | apply IsS59.drew | apply IsS59.set_1 | refine IsS59.far ?_ NB269_273.out _) | exact HI269.out)) hb); have n1_ := Aside0.mk (blk_below (g := gb273) (o := .cells #[.int .i64 t270, .string t271] 29 (0, 0)) (by (with_reducible repeat (first | refine blk_drewN ?_ _ | refine blk_drew ?_ | refine blk_alloc ?_ _)); exact BK273.out) hb); have n2_ := Aside0.mk (below_step (by repeat (first | (with_reducible first | exact HB.out | apply below_alloc | apply pw_below_drewN | apply below_drew1 | refine below_set ?_ (IsS59.ge HI269.out) | refine below_set ?_ GE273.out) | exact HB.out)) hb); clear HI269; clear BK273; clear HB; have HI269 := n0_; have BK273 := n1_; have HB := n2_; clear n0_ n1_ n2_; (try clear hb); (try clear hb2); (try clear hk); (try clear hi)))
                    have n0_ := Aside0.mk (blk_drew BK273.out)
                    have n1_ := Aside0.mk (IsS59.drew HI269.out)
                    have n2_ := Aside0.mk (below_drew1 HB.out)
                    clear BK273
                    clear HI269
                    clear HB
                    have BK273 := n0_
                    have HI269 := n1_
                    have HB := n2_
                    clear n0_ n1_ n2_
                    refine start_ (n := 13) (S := fun w' => w'.cell? ⟨gb273, 0, none⟩ = some (.int .i64 t270) ∧ w'.cell? ⟨gb273, 1, none⟩ = some (.string t271)) (ds := []) #[false, false, false, false, false, false, false, false, false, false, false, false, false] (by kernel_rfl) rfl rfl ⟨(blk_cell BK273.out 0).trans rfl, (blk_cell BK273.out 1).trans rfl⟩ (fun hHeld => ?_); refine with_tabW keyeventlaw03_PrimitiveOpens.tab10 keyeventlaw03_PrimitiveOpens.bits10 (fun HT_ HW_ => ?_)
                    generalize w64.drew = w65 at BK273 HI269 HB hHeld ⊢
                    refine pure_ (i := 0) (N := some 47) (v := ?_) (a' := ?_) #[true, false, false, false, false, false, false, false, false, false, false, false, false] rfl rfl (any_of HT_.out (by kernel_rfl)) (fun _ _ _ h => h) (Or.inl ⟨by rfl, ?_⟩) ?_ ?_
                    rotate_left
                    · intro w'
                      go_simp
                      with_reducible rfl
                    rotate_left
                    · simp only [Act.put, List.setIfInBounds_toArray, List.set_cons_zero, List.set_cons_succ, i64_w, i32_w]
                      rfl
                    refine pure_ (i := 2) (N := some 49) (v := ?_) (a' := ?_) #[true, false, true, false, false, false, false, false, false, false, false, false, false] rfl rfl (any_of HT_.out (by kernel_rfl)) (fun _ _ _ h => h) (Or.inl ⟨by rfl, ?_⟩) ?_ ?_
                    rotate_left
                    · intro w'
                      go_simp
                      with_reducible rfl
                    rotate_left
                    · simp only [Act.put, List.setIfInBounds_toArray, List.set_cons_zero, List.set_cons_succ, i64_w, i32_w]
                      rfl
                    refine pure_ (i := 3) (N := some 50) (v := ?_) (a' := ?_) #[true, false, true, true, false, false, false, false, false, false, false, false, false] rfl rfl (any_of HT_.out (by kernel_rfl)) (fun _ _ _ h => h) (Or.inl ⟨by rfl, ?_⟩) ?_ ?_
                    rotate_left
                    · intro w'
                      go_simp
                      with_reducible rfl
                    rotate_left
                    · simp only [Act.put, List.setIfInBounds_toArray, List.set_cons_zero, List.set_cons_succ, i64_w, i32_w]
                      rfl
                    refine pure_ (i := 4) (N := some 51) (v := ?_) (a' := ?_) #[true, false, true, true, true, false, false, false, false, false, false, false, false] rfl rfl (any_of HT_.out (by kernel_rfl)) (fun _ _ _ h => h) (Or.inl ⟨by rfl, ?_⟩) ?_ ?_
                    rotate_left
                    · intro w'
                      go_simp
                      with_reducible rfl
                    rotate_left
                    · simp only [Act.put, List.setIfInBounds_toArray, List.set_cons_zero, List.set_cons_succ, i64_w, i32_w]
                      rfl
                    refine pure_ (i := 5) (N := some 52) (v := ?_) (a' := ?_) #[true, false, true, true, true, true, false, false, false, false, false, false, false] rfl rfl (any_of HT_.out (by kernel_rfl)) (fun _ _ _ h => h) (Or.inl ⟨by rfl, ?_⟩) ?_ ?_
                    rotate_left
                    · intro w'
                      go_simp
                      with_reducible rfl
                    rotate_left
                    · simp only [Act.put, List.setIfInBounds_toArray, List.set_cons_zero, List.set_cons_succ, i64_w, i32_w]
                      rfl
                    refine pure_ (i := 6) (N := some 53) (v := ?_) (a' := ?_) #[true, false, true, true, true, true, true, false, false, false, false, false, false] rfl rfl (any_of HT_.out (by kernel_rfl)) (fun _ _ _ h => h) (Or.inl ⟨by rfl, ?_⟩) ?_ ?_
                    rotate_left
                    · intro w'
                      go_simp
                      with_reducible rfl
                    rotate_left
                    · simp only [Act.put, List.setIfInBounds_toArray, List.set_cons_zero, List.set_cons_succ, i64_w, i32_w]
                      rfl
                    refine take_ (i := 1) (N := some 48) (v := ?_) (a' := ?_) #[true, true, true, true, true, true, true, false, false, false, false, false, false] rfl rfl (take_ofW HT_.out HW_.out (by kernel_rfl)) (fun _ _ _ h => h) (Or.inl ⟨by rfl, ?_⟩) hHeld ?_ ?_
                    rotate_left
                    · rintro w' ⟨s0, s1⟩
                      go_simp
                      with_reducible rfl
                    rotate_left
                    · simp only [Act.put, List.setIfInBounds_toArray, List.set_cons_zero, List.set_cons_succ, i64_w, i32_w]
                      rfl
                    refine one_ (i := 7) (N := some 54) #[true, true, true, true, true, true, true, true, false, false, false, false, false] rfl rfl (one_of HT_.out (by kernel_rfl)) (by decide) (fun K hK => ?_)
                    refine goes_ Try.func21 (by kernel_rfl) rfl #[.int .i64 t270, .string (t274.extract 0 ((ji21) : Int).toNat)] (by rfl) rfl rfl (by (try simp only [List.map_toArray, List.map_cons, List.map_nil]); first | done | (simp only [hji21]; rfl) | rfl | (simp only [List.length_drop, List.length_take]; rfl)) ?_
                    with_reducible refine (primitive_Open.calls k t270 (t274.extract 0 ((ji21) : Int).toNat) t281 t282 _ A24.out).mono ?_
                    rintro e w66 ⟨rfl, hb⟩
                    refine ⟨_, rfl, ?_⟩
                    have n0_ := Aside0.mk (IsS59.below (by repeat (first | (with_reducible first | exact HI269.out | apply IsS59.alloc | apply IsS59.drewN | apply IsS59.drew | apply IsS59.set_1 | refine IsS59.far ?_ NB269_273.out _) | exact HI269.out)) hb)
                    have n1_ := Aside0.mk (blk_below (g := gb273) (o := .cells #[.int .i64 t270, .string t271] 29 (0, 0)) (by (with_reducible repeat (first | refine blk_drewN ?_ _ | refine blk_drew ?_ | refine blk_alloc ?_ _)); exact BK273.out) hb)
                    have n2_ := Aside0.mk (below_step (by repeat (first | (with_reducible first | exact HB.out | apply below_alloc | apply pw_below_drewN | apply below_drew1 | refine below_set ?_ (IsS59.ge HI269.out) | refine below_set ?_ GE273.out) | exact HB.out)) hb)
                    clear HI269
                    clear BK273
                    clear HB
                    have HI269 := n0_
                    have BK273 := n1_
                    have HB := n2_
                    clear n0_ n1_ n2_
                    (try clear hb)
                    (try clear hb2)
                    (try clear hk)
                    (try clear hi)
                    refine hK.out _ _ ⟨(blk_cell BK273.out 0).trans rfl, (blk_cell BK273.out 1).trans rfl⟩ (fun hHeld => ?_)
                    clear hK K
                    refine norm_ (a' := ?_) ?_ ?_
                    rotate_left
                    · show Act.put _ (some 54) _ = _
                      simp only [Act.put, List.setIfInBounds_toArray, List.set_cons_zero, List.set_cons_succ, i64_w, i32_w]
                      rfl
                    refine pure_ (i := 8) (N := some 46) (v := ?_) (a' := ?_) #[true, true, true, true, true, true, true, true, true, false, false, false, false] rfl rfl (any_of HT_.out (by kernel_rfl)) (fun _ _ _ h => h) (Or.inl ⟨by rfl, ?_⟩) ?_ ?_
                    rotate_left
                    · intro w'
                      go_simp
                      with_reducible rfl
                    rotate_left
                    · simp only [Act.put, List.setIfInBounds_toArray, List.set_cons_zero, List.set_cons_succ, i64_w, i32_w]
                      rfl
                    refine pure_ (i := 9) (N := some 55) (v := ?_) (a' := ?_) #[true, true, true, true, true, true, true, true, true, true, false, false, false] rfl rfl (any_of HT_.out (by kernel_rfl)) (fun _ _ _ h => h) (Or.inl ⟨by rfl, ?_⟩) ?_ ?_
                    rotate_left
                    · intro w'
                      go_simp
                      with_reducible rfl
                    rotate_left
                    · simp only [Act.put, List.setIfInBounds_toArray, List.set_cons_zero, List.set_cons_succ, i64_w, i32_w]
                      rfl
                    refine pure_ (i := 10) (N := some 56) (v := ?_) (a' := ?_) #[true, true, true, true, true, true, true, true, true, true, true, false, false] rfl rfl (any_of HT_.out (by kernel_rfl)) (fun _ _ _ h => h) (Or.inl ⟨by rfl, ?_⟩) ?_ ?_
                    rotate_left
                    · intro w'
                      go_simp
                      with_reducible rfl
                    rotate_left
                    · simp only [Act.put, List.setIfInBounds_toArray, List.set_cons_zero, List.set_cons_succ, i64_w, i32_w]
                      rfl
                    refine pure_ (i := 11) (N := some 12) (v := ?_) (a' := ?_) #[true, true, true, true, true, true, true, true, true, true, true, true, false] rfl rfl (any_of HT_.out (by kernel_rfl)) (fun _ _ _ h => h) (Or.inl ⟨by rfl, ?_⟩) ?_ ?_
                    rotate_left
                    · intro w'
                      go_simp
                      with_reducible rfl
                    rotate_left
                    · simp only [Act.put, List.setIfInBounds_toArray, List.set_cons_zero, List.set_cons_succ, i64_w, i32_w]
                      rfl
                    refine pure_ (i := 12) (N := some 13) (v := ?_) (a' := ?_) #[true, true, true, true, true, true, true, true, true, true, true, true, true] rfl rfl (any_of HT_.out (by kernel_rfl)) (fun _ _ _ h => h) (Or.inl ⟨by rfl, ?_⟩) ?_ ?_
                    rotate_left
                    · intro w'
                      go_simp
                      with_reducible rfl
                    rotate_left
                    · simp only [Act.put, List.setIfInBounds_toArray, List.set_cons_zero, List.set_cons_succ, i64_w, i32_w]
                      rfl
                    refine done_ (done_of HT_.out (by kernel_rfl)) ?_
                    have hcz67_0 : w66.cell? ⟨gb273, 0, none⟩ = some (.int .i64 t270) := (blk_cell BK273.out 0).trans rfl
                    have hcz67_1 : w66.cell? ⟨gb273, 1, none⟩ = some (.string t271) := (blk_cell BK273.out 1).trans rfl
                    have hfz67_0 := blk_frozen BK273.out 0
                    have hfz67_1 := blk_frozen BK273.out 1
                    try go_wp2
                    go_ret
                    exact ⟨by first | rfl | (simp [errW_none, errW_some] <;> rfl) | (simp only [← hji21]; first | rfl | (simp [errW_none, errW_some] <;> rfl)) | (simp [*, errW_none, errW_some] <;> rfl), by repeat (first | (with_reducible first | exact HB.out | apply below_alloc | apply pw_below_drewN | apply below_drew1 | refine below_set ?_ (IsS59.ge HI269.out) | refine below_set ?_ GE273.out) | exact HB.out)⟩
                · rw [if_neg c27] at H
                  have c27b0 : (t277.toList == t271.toList) = false := beq_eq_false_iff_ne.mpr c27
                  have c27b1 : (t277.toList != t271.toList) = true := bne_iff_ne.mpr c27
                  obtain rfl := Option.some.inj H
                  go_enter Try.func6, Try.ntmps6
                  try go_wp2_with (first | ((with_reducible refine gate_callee (f := 8) rfl ?_); refine goesL_ (some 15) rfl rfl Try.func8 (by kernel_rfl) rfl #[.slice A0 l0.length c0] rfl (by (try simp only [List.map_toArray, List.map_cons, List.map_nil]); first | done | rfl | (simp only [List.length_drop, List.length_take]; rfl)) ?_; (with_reducible refine (keyeventkit_Light.calls _ _ l0 true _ ?side1 ?side2 A3.out).mono ?_); (case side1 => repeat (first | exact HR0.out | (with_reducible refine Kd.C_alloc ?_ _) | (with_reducible refine Kd.C_drewN ?_ _) | (with_reducible refine Kd.C_drew ?_))); (case side2 => exact HC0.out); rintro e w' ⟨rfl, ⟨nd, rfl⟩⟩; refine ⟨_, rfl, ?_⟩) | ((with_reducible refine gate_callee (f := 12) rfl ?_); refine goesL_ (some 19) rfl rfl Try.func12 (by kernel_rfl) rfl #[.slice A0 l0.length c0] rfl (by (try simp only [List.map_toArray, List.map_cons, List.map_nil]); first | done | rfl | (simp only [List.length_drop, List.length_take]; rfl)) ?_; (with_reducible refine (keyeventkit_Roll.calls _ _ l0 t267 t268 w _ ?side1 ?side2 ?side3 A5.out).mono ?_); (case side1 => repeat (first | (with_reducible first | exact HB.out | apply below_alloc | apply pw_below_drewN | apply below_drew1) | exact HB.out)); (case side2 => exact HR0.out); (case side3 => exact HC0.out); rintro e w68 ⟨g269, rfl, hi, hb, hb2⟩; refine ⟨_, rfl, ?_⟩; have n0_ := Aside0.mk (hb); have n1_ := Aside0.mk (hi); clear HB; have HB := n0_; have HI269 := n1_; clear n0_ n1_; (try clear hb); (try clear hb2); (try clear hk); (try clear hi)) | ((with_reducible refine gate_callee (f := 11) rfl ?_); refine goesL_ (some 20) rfl rfl Try.func11 (by kernel_rfl) rfl #[.pointer (some ⟨g269, 0, none⟩)] rfl (by (try simp only [List.map_toArray, List.map_cons, List.map_nil]); first | done | rfl | (simp only [List.length_drop, List.length_take]; rfl)) ?_; (with_reducible refine (keyeventkit_Primitive.calls k g269 t267 t268 t270 t271 t272 w _ ?side1 ?side2 A6.out).mono ?_); (case side1 => repeat (first | (with_reducible first | exact HI269.out | apply IsS59.alloc | apply IsS59.drewN | apply IsS59.drew | apply IsS59.set_1) | exact HI269.out)); (case side2 => repeat (first | (with_reducible first | exact HB.out | apply below_alloc | apply pw_below_drewN | apply below_drew1 | refine below_set ?_ (IsS59.ge HI269.out)) | exact HB.out)); rintro e w69 ⟨rfl, hi, hb, hk⟩; refine ⟨_, rfl, ?_⟩; have n0_ := Aside0.mk (hb); have n1_ := Aside0.mk (hi); clear HB; clear HI269; have HB := n0_; have HI269 := n1_; clear n0_ n1_; (try clear hb); (try clear hb2); (try clear hk); (try clear hi)) | ((with_reducible refine gate_dst (N := 5) rfl ?_); refine box_event ?hg (N := 5) ?hd (cs := #[.int .i64 0, .string (⟨#[]⟩ : ByteArray)]) (t := 29) ?hr ?_; (case hd => rfl); (case hg => rfl); (case hr => first | (go_simp; done) | (go_simp; rfl)); intro gb273 hg w70 hbox hb; have n0_ := Aside0.mk (IsS59.below (by repeat (first | (with_reducible first | exact HI269.out | apply IsS59.alloc | apply IsS59.drewN | apply IsS59.drew | apply IsS59.set_1) | exact HI269.out)) hb); have n1_ := Aside0.mk (below_step (by repeat (first | (with_reducible first | exact HB.out | apply below_alloc | apply pw_below_drewN | apply below_drew1 | refine below_set ?_ (IsS59.ge HI269.out)) | exact HB.out)) hb); have n2_ := Aside0.mk (hbox); have n3_ := Aside0.mk ((by rw [hg]; exact (below_size (by repeat (first | (with_reducible first | exact HB.out | apply below_alloc | apply pw_below_drewN | apply below_drew1 | refine below_set ?_ (IsS59.ge HI269.out)) | exact HB.out))) : w.heap.size ≤ gb273)); have n4_ := Aside0.mk ((by rw [hg]; exact (below_size (by repeat (first | (with_reducible first | exact HB.out | apply below_alloc | apply pw_below_drewN | apply below_drew1 | refine below_set ?_ (IsS59.ge HI269.out)) | exact HB.out))) : w.heap.size ≤ gb273)); have n5_ := Aside0.mk ((by rw [hg]; exact Nat.ne_of_lt (IsS59.lt (show IsS59 w _ g269 t267 t272 from by repeat (first | (with_reducible first | exact HI269.out | apply IsS59.alloc | apply IsS59.drewN | apply IsS59.drew | apply IsS59.set_1) | exact HI269.out))) : g269 ≠ gb273)); have n6_ := Aside0.mk ((by rw [hg]; exact Nat.ne_of_gt (IsS59.lt (show IsS59 w _ g269 t267 t272 from by repeat (first | (with_reducible first | exact HI269.out | apply IsS59.alloc | apply IsS59.drewN | apply IsS59.drew | apply IsS59.set_1) | exact HI269.out))) : gb273 ≠ g269)); clear HI269; clear HB; have HI269 := n0_; have HB := n1_; have BK273 := n2_; have GW273 := n3_; have GE273 := n4_; have NB269_273 := n5_; have NB273_269 := n6_; clear n0_ n1_ n2_ n3_ n4_ n5_ n6_; clear hb hbox hg; have hnb71 := NB273_269.out; have hnc71 := NB269_273.out; have hcz72_0 : w70.cell? ⟨gb273, 0, none⟩ = some (.int .i64 0) := (blk_cell BK273.out 0).trans rfl; have hcz72_1 : w70.cell? ⟨gb273, 1, none⟩ = some (.string (⟨#[]⟩ : ByteArray)) := (blk_cell BK273.out 1).trans rfl; have hfz72_0 := blk_frozen BK273.out 0; have hfz72_1 := blk_frozen BK273.out 1) | ((with_reducible refine gate_callee (f := 19) rfl ?_); refine goesL_ (some 25) rfl rfl Try.func19 (by kernel_rfl) rfl #[.int .i64 t270, .string t271] rfl (by (try simp only [List.map_toArray, List.map_cons, List.map_nil]); first | done | rfl | (simp only [List.length_drop, List.length_take]; rfl)) ?_; (with_reducible refine (primitive_Make.calls k t270 t271 t274 _ A7.out).mono ?_); rintro e w73 ⟨rfl, hb⟩; refine ⟨_, rfl, ?_⟩; have n0_ := Aside0.mk (IsS59.below (show IsS59 w ((w70.setCell ⟨gb273, 0, none⟩ (.int .i64 t270)).setCell ⟨gb273, 1, none⟩ (.string t271)) g269 t267 t272 from by repeat (first | (with_reducible first | exact HI269.out | apply IsS59.alloc | apply IsS59.drewN | apply IsS59.drew | apply IsS59.set_1 | refine IsS59.far ?_ NB269_273.out _) | exact HI269.out)) hb); have n1_ := Aside0.mk (blk_below (g := gb273) (o := .cells #[.int .i64 t270, .string t271] 29 (0, 0)) (by (with_reducible repeat (first | refine blk_drewN ?_ _ | refine blk_drew ?_ | refine blk_alloc ?_ _)); refine blk_put (cs := #[.int .i64 t270, .string (⟨#[]⟩ : ByteArray)]) ?_ 1 _ rfl; (with_reducible repeat (first | refine blk_drewN ?_ _ | refine blk_drew ?_ | refine blk_alloc ?_ _)); refine blk_put (cs := #[.int .i64 0, .string (⟨#[]⟩ : ByteArray)]) ?_ 0 _ rfl; (with_reducible repeat (first | refine blk_drewN ?_ _ | refine blk_drew ?_ | refine blk_alloc ?_ _)); exact BK273.out) hb); have n2_ := Aside0.mk (below_step (by repeat (first | (with_reducible first | exact HB.out | apply below_alloc | apply pw_below_drewN | apply below_drew1 | refine below_set ?_ (IsS59.ge HI269.out) | refine below_set ?_ GE273.out) | exact HB.out)) hb); clear HI269; clear BK273; clear HB; have HI269 := n0_; have BK273 := n1_; have HB := n2_; clear n0_ n1_ n2_; (try clear hb); (try clear hb2); (try clear hk); (try clear hi)) | ((with_reducible refine gate_callee (f := 20) rfl ?_); refine goesL_ (some 30) rfl rfl Try.func20 (by kernel_rfl) rfl #[.int .i64 a1, .int .i64 8] rfl (by (try simp only [List.map_toArray, List.map_cons, List.map_nil]); first | done | rfl | (simp only [List.length_drop, List.length_take]; rfl)) ?_; (with_reducible refine (keyeventkit_Mod.calls a1 8 t276 _ A17.out).mono ?_); rintro e w' ⟨rfl, ⟨nd, rfl⟩⟩; refine ⟨_, rfl, ?_⟩) | ((with_reducible refine gate_callee (f := 21) rfl ?_); refine goesL_ (some 35) rfl rfl Try.func21 (by kernel_rfl) rfl #[.int .i64 (wrap64 (1 + t276)), .string t274] rfl (by (try simp only [List.map_toArray, List.map_cons, List.map_nil]); first | done | rfl | (simp only [List.length_drop, List.length_take]; rfl)) ?_; (with_reducible refine (primitive_Open.calls k (wrap64 (1 + t276)) t274 t277 t278 _ A18.out).mono ?_); rintro e w74 ⟨rfl, hb⟩; refine ⟨_, rfl, ?_⟩; have n0_ := Aside0.mk (IsS59.below (by repeat (first | (with_reducible first | exact HI269.out | apply IsS59.alloc | apply IsS59.drewN | apply IsS59.drew | apply IsS59.set_1 | refine IsS59.far ?_ NB269_273.out _) | exact HI269.out)) hb); have n1_ := Aside0.mk (blk_below (g := gb273) (o := .cells #[.int .i64 t270, .string t271] 29 (0, 0)) (by (with_reducible repeat (first | refine blk_drewN ?_ _ | refine blk_drew ?_ | refine blk_alloc ?_ _)); exact BK273.out) hb); have n2_ := Aside0.mk (below_step (by repeat (first | (with_reducible first | exact HB.out | apply below_alloc | apply pw_below_drewN | apply below_drew1 | refine below_set ?_ (IsS59.ge HI269.out) | refine below_set ?_ GE273.out) | exact HB.out)) hb); clear HI269; clear BK273; clear HB; have HI269 := n0_; have BK273 := n1_; have HB := n2_; clear n0_ n1_ n2_; (try clear hb); (try clear hb2); (try clear hk); (try clear hi); have hcz75_0 : w74.cell? ⟨gb273, 0, none⟩ = some (.int .i64 t270) := (blk_cell BK273.out 0).trans rfl; have hcz75_1 : w74.cell? ⟨gb273, 1, none⟩ = some (.string t271) := (blk_cell BK273.out 1).trans rfl; have hfz75_0 := blk_frozen BK273.out 0; have hfz75_1 := blk_frozen BK273.out 1) | ((with_reducible refine gate_callee (f := 21) rfl ?_); refine goesL_ (some 43) rfl rfl Try.func21 (by kernel_rfl) rfl #[.int .i64 t270, .string (t274 ++ (⟨#[65]⟩ : ByteArray))] rfl (by (try simp only [List.map_toArray, List.map_cons, List.map_nil]); first | done | rfl | (simp only [List.length_drop, List.length_take]; rfl)) ?_; (with_reducible refine (primitive_Open.calls k t270 (t274 ++ (⟨#[65]⟩ : ByteArray)) t279 t280 _ A20.out).mono ?_); rintro e w76 ⟨rfl, hb⟩; refine ⟨_, rfl, ?_⟩; have n0_ := Aside0.mk (IsS59.below (by repeat (first | (with_reducible first | exact HI269.out | apply IsS59.alloc | apply IsS59.drewN | apply IsS59.drew | apply IsS59.set_1 | refine IsS59.far ?_ NB269_273.out _) | exact HI269.out)) hb); have n1_ := Aside0.mk (blk_below (g := gb273) (o := .cells #[.int .i64 t270, .string t271] 29 (0, 0)) (by (with_reducible repeat (first | refine blk_drewN ?_ _ | refine blk_drew ?_ | refine blk_alloc ?_ _)); exact BK273.out) hb); have n2_ := Aside0.mk (below_step (by repeat (first | (with_reducible first | exact HB.out | apply below_alloc | apply pw_below_drewN | apply below_drew1 | refine below_set ?_ (IsS59.ge HI269.out) | refine below_set ?_ GE273.out) | exact HB.out)) hb); clear HI269; clear BK273; clear HB; have HI269 := n0_; have BK273 := n1_; have HB := n2_; clear n0_ n1_ n2_; (try clear hb); (try clear hb2); (try clear hk); (try clear hi)))
                  have n0_ := Aside0.mk (blk_drew BK273.out)
                  have n1_ := Aside0.mk (IsS59.drew HI269.out)
                  have n2_ := Aside0.mk (below_drew1 HB.out)
                  clear BK273
                  clear HI269
                  clear HB
                  have BK273 := n0_
                  have HI269 := n1_
                  have HB := n2_
                  clear n0_ n1_ n2_
                  refine start_ (n := 13) (S := fun w' => w'.cell? ⟨gb273, 0, none⟩ = some (.int .i64 t270) ∧ w'.cell? ⟨gb273, 1, none⟩ = some (.string t271)) (ds := []) #[false, false, false, false, false, false, false, false, false, false, false, false, false] (by kernel_rfl) rfl rfl ⟨(blk_cell BK273.out 0).trans rfl, (blk_cell BK273.out 1).trans rfl⟩ (fun hHeld => ?_); refine with_tabW keyeventlaw03_PrimitiveOpens.tab10 keyeventlaw03_PrimitiveOpens.bits10 (fun HT_ HW_ => ?_)
                  generalize w76.drew = w77 at BK273 HI269 HB hHeld ⊢
                  refine pure_ (i := 0) (N := some 47) (v := ?_) (a' := ?_) #[true, false, false, false, false, false, false, false, false, false, false, false, false] rfl rfl (any_of HT_.out (by kernel_rfl)) (fun _ _ _ h => h) (Or.inl ⟨by rfl, ?_⟩) ?_ ?_
                  rotate_left
                  · intro w'
                    go_simp
                    with_reducible rfl
                  rotate_left
                  · simp only [Act.put, List.setIfInBounds_toArray, List.set_cons_zero, List.set_cons_succ, i64_w, i32_w]
                    rfl
                  refine pure_ (i := 2) (N := some 49) (v := ?_) (a' := ?_) #[true, false, true, false, false, false, false, false, false, false, false, false, false] rfl rfl (any_of HT_.out (by kernel_rfl)) (fun _ _ _ h => h) (Or.inl ⟨by rfl, ?_⟩) ?_ ?_
                  rotate_left
                  · intro w'
                    go_simp
                    with_reducible rfl
                  rotate_left
                  · simp only [Act.put, List.setIfInBounds_toArray, List.set_cons_zero, List.set_cons_succ, i64_w, i32_w]
                    rfl
                  refine pure_ (i := 3) (N := some 50) (v := ?_) (a' := ?_) #[true, false, true, true, false, false, false, false, false, false, false, false, false] rfl rfl (any_of HT_.out (by kernel_rfl)) (fun _ _ _ h => h) (Or.inl ⟨by rfl, ?_⟩) ?_ ?_
                  rotate_left
                  · intro w'
                    go_simp
                    with_reducible rfl
                  rotate_left
                  · simp only [Act.put, List.setIfInBounds_toArray, List.set_cons_zero, List.set_cons_succ, i64_w, i32_w]
                    rfl
                  refine pure_ (i := 4) (N := some 51) (v := ?_) (a' := ?_) #[true, false, true, true, true, false, false, false, false, false, false, false, false] rfl rfl (any_of HT_.out (by kernel_rfl)) (fun _ _ _ h => h) (Or.inl ⟨by rfl, ?_⟩) ?_ ?_
                  rotate_left
                  · intro w'
                    go_simp
                    with_reducible rfl
                  rotate_left
                  · simp only [Act.put, List.setIfInBounds_toArray, List.set_cons_zero, List.set_cons_succ, i64_w, i32_w]
                    rfl
                  refine pure_ (i := 5) (N := some 52) (v := ?_) (a' := ?_) #[true, false, true, true, true, true, false, false, false, false, false, false, false] rfl rfl (any_of HT_.out (by kernel_rfl)) (fun _ _ _ h => h) (Or.inl ⟨by rfl, ?_⟩) ?_ ?_
                  rotate_left
                  · intro w'
                    go_simp
                    with_reducible rfl
                  rotate_left
                  · simp only [Act.put, List.setIfInBounds_toArray, List.set_cons_zero, List.set_cons_succ, i64_w, i32_w]
                    rfl
                  refine pure_ (i := 6) (N := some 53) (v := ?_) (a' := ?_) #[true, false, true, true, true, true, true, false, false, false, false, false, false] rfl rfl (any_of HT_.out (by kernel_rfl)) (fun _ _ _ h => h) (Or.inl ⟨by rfl, ?_⟩) ?_ ?_
                  rotate_left
                  · intro w'
                    go_simp
                    with_reducible rfl
                  rotate_left
                  · simp only [Act.put, List.setIfInBounds_toArray, List.set_cons_zero, List.set_cons_succ, i64_w, i32_w]
                    rfl
                  refine take_ (i := 1) (N := some 48) (v := ?_) (a' := ?_) #[true, true, true, true, true, true, true, false, false, false, false, false, false] rfl rfl (take_ofW HT_.out HW_.out (by kernel_rfl)) (fun _ _ _ h => h) (Or.inl ⟨by rfl, ?_⟩) hHeld ?_ ?_
                  rotate_left
                  · rintro w' ⟨s0, s1⟩
                    go_simp
                    with_reducible rfl
                  rotate_left
                  · simp only [Act.put, List.setIfInBounds_toArray, List.set_cons_zero, List.set_cons_succ, i64_w, i32_w]
                    rfl
                  refine one_ (i := 7) (N := some 54) #[true, true, true, true, true, true, true, true, false, false, false, false, false] rfl rfl (one_of HT_.out (by kernel_rfl)) (by decide) (fun K hK => ?_)
                  refine goes_ Try.func21 (by kernel_rfl) rfl #[.int .i64 t270, .string (t274.extract 0 ((ji21) : Int).toNat)] (by rfl) rfl rfl (by (try simp only [List.map_toArray, List.map_cons, List.map_nil]); first | done | (simp only [hji21]; rfl) | rfl | (simp only [List.length_drop, List.length_take]; rfl)) ?_
                  with_reducible refine (primitive_Open.calls k t270 (t274.extract 0 ((ji21) : Int).toNat) t281 t282 _ A24.out).mono ?_
                  rintro e w78 ⟨rfl, hb⟩
                  refine ⟨_, rfl, ?_⟩
                  have n0_ := Aside0.mk (IsS59.below (by repeat (first | (with_reducible first | exact HI269.out | apply IsS59.alloc | apply IsS59.drewN | apply IsS59.drew | apply IsS59.set_1 | refine IsS59.far ?_ NB269_273.out _) | exact HI269.out)) hb)
                  have n1_ := Aside0.mk (blk_below (g := gb273) (o := .cells #[.int .i64 t270, .string t271] 29 (0, 0)) (by (with_reducible repeat (first | refine blk_drewN ?_ _ | refine blk_drew ?_ | refine blk_alloc ?_ _)); exact BK273.out) hb)
                  have n2_ := Aside0.mk (below_step (by repeat (first | (with_reducible first | exact HB.out | apply below_alloc | apply pw_below_drewN | apply below_drew1 | refine below_set ?_ (IsS59.ge HI269.out) | refine below_set ?_ GE273.out) | exact HB.out)) hb)
                  clear HI269
                  clear BK273
                  clear HB
                  have HI269 := n0_
                  have BK273 := n1_
                  have HB := n2_
                  clear n0_ n1_ n2_
                  (try clear hb)
                  (try clear hb2)
                  (try clear hk)
                  (try clear hi)
                  refine hK.out _ _ ⟨(blk_cell BK273.out 0).trans rfl, (blk_cell BK273.out 1).trans rfl⟩ (fun hHeld => ?_)
                  clear hK K
                  refine norm_ (a' := ?_) ?_ ?_
                  rotate_left
                  · show Act.put _ (some 54) _ = _
                    simp only [Act.put, List.setIfInBounds_toArray, List.set_cons_zero, List.set_cons_succ, i64_w, i32_w]
                    rfl
                  refine pure_ (i := 8) (N := some 46) (v := ?_) (a' := ?_) #[true, true, true, true, true, true, true, true, true, false, false, false, false] rfl rfl (any_of HT_.out (by kernel_rfl)) (fun _ _ _ h => h) (Or.inl ⟨by rfl, ?_⟩) ?_ ?_
                  rotate_left
                  · intro w'
                    go_simp
                    with_reducible rfl
                  rotate_left
                  · simp only [Act.put, List.setIfInBounds_toArray, List.set_cons_zero, List.set_cons_succ, i64_w, i32_w]
                    rfl
                  refine pure_ (i := 9) (N := some 55) (v := ?_) (a' := ?_) #[true, true, true, true, true, true, true, true, true, true, false, false, false] rfl rfl (any_of HT_.out (by kernel_rfl)) (fun _ _ _ h => h) (Or.inl ⟨by rfl, ?_⟩) ?_ ?_
                  rotate_left
                  · intro w'
                    go_simp
                    with_reducible rfl
                  rotate_left
                  · simp only [Act.put, List.setIfInBounds_toArray, List.set_cons_zero, List.set_cons_succ, i64_w, i32_w]
                    rfl
                  refine pure_ (i := 10) (N := some 56) (v := ?_) (a' := ?_) #[true, true, true, true, true, true, true, true, true, true, true, false, false] rfl rfl (any_of HT_.out (by kernel_rfl)) (fun _ _ _ h => h) (Or.inl ⟨by rfl, ?_⟩) ?_ ?_
                  rotate_left
                  · intro w'
                    go_simp
                    with_reducible rfl
                  rotate_left
                  · simp only [Act.put, List.setIfInBounds_toArray, List.set_cons_zero, List.set_cons_succ, i64_w, i32_w]
                    rfl
                  refine pure_ (i := 11) (N := some 12) (v := ?_) (a' := ?_) #[true, true, true, true, true, true, true, true, true, true, true, true, false] rfl rfl (any_of HT_.out (by kernel_rfl)) (fun _ _ _ h => h) (Or.inl ⟨by rfl, ?_⟩) ?_ ?_
                  rotate_left
                  · intro w'
                    go_simp
                    with_reducible rfl
                  rotate_left
                  · simp only [Act.put, List.setIfInBounds_toArray, List.set_cons_zero, List.set_cons_succ, i64_w, i32_w]
                    rfl
                  refine pure_ (i := 12) (N := some 13) (v := ?_) (a' := ?_) #[true, true, true, true, true, true, true, true, true, true, true, true, true] rfl rfl (any_of HT_.out (by kernel_rfl)) (fun _ _ _ h => h) (Or.inl ⟨by rfl, ?_⟩) ?_ ?_
                  rotate_left
                  · intro w'
                    go_simp
                    with_reducible rfl
                  rotate_left
                  · simp only [Act.put, List.setIfInBounds_toArray, List.set_cons_zero, List.set_cons_succ, i64_w, i32_w]
                    rfl
                  refine done_ (done_of HT_.out (by kernel_rfl)) ?_
                  have hcz79_0 : w78.cell? ⟨gb273, 0, none⟩ = some (.int .i64 t270) := (blk_cell BK273.out 0).trans rfl
                  have hcz79_1 : w78.cell? ⟨gb273, 1, none⟩ = some (.string t271) := (blk_cell BK273.out 1).trans rfl
                  have hfz79_0 := blk_frozen BK273.out 0
                  have hfz79_1 := blk_frozen BK273.out 1
                  try go_wp2
                  go_ret
                  exact ⟨by first | rfl | (simp [errW_none, errW_some] <;> rfl) | (simp only [← hji21]; first | rfl | (simp [errW_none, errW_some] <;> rfl)) | (simp [*, errW_none, errW_some] <;> rfl), by repeat (first | (with_reducible first | exact HB.out | apply below_alloc | apply pw_below_drewN | apply below_drew1 | refine below_set ?_ (IsS59.ge HI269.out) | refine below_set ?_ GE273.out) | exact HB.out)⟩
              · rw [if_neg c26] at H
                have c26b0 : (t278 == 0) = false := beq_eq_false_iff_ne.mpr c26
                have c26b1 : (t278 != 0) = true := bne_iff_ne.mpr c26
                (try have c26q : ((wrap64 (1 + t276)) == t270) = false := by have h_ := c25b0; rw [c26b0] at h_; simpa using h_)
                by_cases c80 : t278 = 7
                · rw [if_pos c80] at H
                  have c80b0 : (t278 == 7) = true := beq_iff_eq.mpr c80
                  have c80b1 : (t278 != 7) = false := bne_eq_false_iff_eq.mpr c80
                  clear c80
                  by_cases c81 : t280 = 8
                  · rw [if_pos c81] at H
                    have c81b0 : (t280 == 8) = true := beq_iff_eq.mpr c81
                    have c81b1 : (t280 != 8) = false := bne_eq_false_iff_eq.mpr c81
                    clear c81
                    by_cases c82 : t282 = 8
                    · rw [if_pos c82] at H
                      have c82b0 : (t282 == 8) = true := beq_iff_eq.mpr c82
                      have c82b1 : (t282 != 8) = false := bne_eq_false_iff_eq.mpr c82
                      clear c82
                      replace H := Option.bind_eq_some_iff.mp H
                      obtain ⟨t284, A830, H⟩ := H
                      replace H : (some t284) = some r := H
                      have A83 := Aside0.mk A830
                      clear A830
                      obtain rfl := Option.some.inj H
                      go_enter Try.func6, Try.ntmps6
                      try go_wp2_with (first | ((with_reducible refine gate_callee (f := 8) rfl ?_); refine goesL_ (some 15) rfl rfl Try.func8 (by kernel_rfl) rfl #[.slice A0 l0.length c0] rfl (by (try simp only [List.map_toArray, List.map_cons, List.map_nil]); first | done | rfl | (simp only [List.length_drop, List.length_take]; rfl)) ?_; (with_reducible refine (keyeventkit_Light.calls _ _ l0 true _ ?side1 ?side2 A3.out).mono ?_); (case side1 => repeat (first | exact HR0.out | (with_reducible refine Kd.C_alloc ?_ _) | (with_reducible refine Kd.C_drewN ?_ _) | (with_reducible refine Kd.C_drew ?_))); (case side2 => exact HC0.out); rintro e w' ⟨rfl, ⟨nd, rfl⟩⟩; refine ⟨_, rfl, ?_⟩) | ((with_reducible refine gate_callee (f := 12) rfl ?_); refine goesL_ (some 19) rfl rfl Try.func12 (by kernel_rfl) rfl #[.slice A0 l0.length c0] rfl (by (try simp only [List.map_toArray, List.map_cons, List.map_nil]); first | done | rfl | (simp only [List.length_drop, List.length_take]; rfl)) ?_; (with_reducible refine (keyeventkit_Roll.calls _ _ l0 t267 t268 w _ ?side1 ?side2 ?side3 A5.out).mono ?_); (case side1 => repeat (first | (with_reducible first | exact HB.out | apply below_alloc | apply pw_below_drewN | apply below_drew1) | exact HB.out)); (case side2 => exact HR0.out); (case side3 => exact HC0.out); rintro e w84 ⟨g269, rfl, hi, hb, hb2⟩; refine ⟨_, rfl, ?_⟩; have n0_ := Aside0.mk (hb); have n1_ := Aside0.mk (hi); clear HB; have HB := n0_; have HI269 := n1_; clear n0_ n1_; (try clear hb); (try clear hb2); (try clear hk); (try clear hi)) | ((with_reducible refine gate_callee (f := 11) rfl ?_); refine goesL_ (some 20) rfl rfl Try.func11 (by kernel_rfl) rfl #[.pointer (some ⟨g269, 0, none⟩)] rfl (by (try simp only [List.map_toArray, List.map_cons, List.map_nil]); first | done | rfl | (simp only [List.length_drop, List.length_take]; rfl)) ?_; (with_reducible refine (keyeventkit_Primitive.calls k g269 t267 t268 t270 t271 t272 w _ ?side1 ?side2 A6.out).mono ?_); (case side1 => repeat (first | (with_reducible first | exact HI269.out | apply IsS59.alloc | apply IsS59.drewN | apply IsS59.drew | apply IsS59.set_1) | exact HI269.out)); (case side2 => repeat (first | (with_reducible first | exact HB.out | apply below_alloc | apply pw_below_drewN | apply below_drew1 | refine below_set ?_ (IsS59.ge HI269.out)) | exact HB.out)); rintro e w85 ⟨rfl, hi, hb, hk⟩; refine ⟨_, rfl, ?_⟩; have n0_ := Aside0.mk (hb); have n1_ := Aside0.mk (hi); clear HB; clear HI269; have HB := n0_; have HI269 := n1_; clear n0_ n1_; (try clear hb); (try clear hb2); (try clear hk); (try clear hi)) | ((with_reducible refine gate_dst (N := 5) rfl ?_); refine box_event ?hg (N := 5) ?hd (cs := #[.int .i64 0, .string (⟨#[]⟩ : ByteArray)]) (t := 29) ?hr ?_; (case hd => rfl); (case hg => rfl); (case hr => first | (go_simp; done) | (go_simp; rfl)); intro gb273 hg w86 hbox hb; have n0_ := Aside0.mk (IsS59.below (by repeat (first | (with_reducible first | exact HI269.out | apply IsS59.alloc | apply IsS59.drewN | apply IsS59.drew | apply IsS59.set_1) | exact HI269.out)) hb); have n1_ := Aside0.mk (below_step (by repeat (first | (with_reducible first | exact HB.out | apply below_alloc | apply pw_below_drewN | apply below_drew1 | refine below_set ?_ (IsS59.ge HI269.out)) | exact HB.out)) hb); have n2_ := Aside0.mk (hbox); have n3_ := Aside0.mk ((by rw [hg]; exact (below_size (by repeat (first | (with_reducible first | exact HB.out | apply below_alloc | apply pw_below_drewN | apply below_drew1 | refine below_set ?_ (IsS59.ge HI269.out)) | exact HB.out))) : w.heap.size ≤ gb273)); have n4_ := Aside0.mk ((by rw [hg]; exact (below_size (by repeat (first | (with_reducible first | exact HB.out | apply below_alloc | apply pw_below_drewN | apply below_drew1 | refine below_set ?_ (IsS59.ge HI269.out)) | exact HB.out))) : w.heap.size ≤ gb273)); have n5_ := Aside0.mk ((by rw [hg]; exact Nat.ne_of_lt (IsS59.lt (show IsS59 w _ g269 t267 t272 from by repeat (first | (with_reducible first | exact HI269.out | apply IsS59.alloc | apply IsS59.drewN | apply IsS59.drew | apply IsS59.set_1) | exact HI269.out))) : g269 ≠ gb273)); have n6_ := Aside0.mk ((by rw [hg]; exact Nat.ne_of_gt (IsS59.lt (show IsS59 w _ g269 t267 t272 from by repeat (first | (with_reducible first | exact HI269.out | apply IsS59.alloc | apply IsS59.drewN | apply IsS59.drew | apply IsS59.set_1) | exact HI269.out))) : gb273 ≠ g269)); clear HI269; clear HB; have HI269 := n0_; have HB := n1_; have BK273 := n2_; have GW273 := n3_; have GE273 := n4_; have NB269_273 := n5_; have NB273_269 := n6_; clear n0_ n1_ n2_ n3_ n4_ n5_ n6_; clear hb hbox hg; have hnb87 := NB273_269.out; have hnc87 := NB269_273.out; have hcz88_0 : w86.cell? ⟨gb273, 0, none⟩ = some (.int .i64 0) := (blk_cell BK273.out 0).trans rfl; have hcz88_1 : w86.cell? ⟨gb273, 1, none⟩ = some (.string (⟨#[]⟩ : ByteArray)) := (blk_cell BK273.out 1).trans rfl; have hfz88_0 := blk_frozen BK273.out 0; have hfz88_1 := blk_frozen BK273.out 1) | ((with_reducible refine gate_callee (f := 19) rfl ?_); refine goesL_ (some 25) rfl rfl Try.func19 (by kernel_rfl) rfl #[.int .i64 t270, .string t271] rfl (by (try simp only [List.map_toArray, List.map_cons, List.map_nil]); first | done | rfl | (simp only [List.length_drop, List.length_take]; rfl)) ?_; (with_reducible refine (primitive_Make.calls k t270 t271 t274 _ A7.out).mono ?_); rintro e w89 ⟨rfl, hb⟩; refine ⟨_, rfl, ?_⟩; have n0_ := Aside0.mk (IsS59.below (show IsS59 w ((w86.setCell ⟨gb273, 0, none⟩ (.int .i64 t270)).setCell ⟨gb273, 1, none⟩ (.string t271)) g269 t267 t272 from by repeat (first | (with_reducible first | exact HI269.out | apply IsS59.alloc | apply IsS59.drewN | apply IsS59.drew | apply IsS59.set_1 | refine IsS59.far ?_ NB269_273.out _) | exact HI269.out)) hb); have n1_ := Aside0.mk (blk_below (g := gb273) (o := .cells #[.int .i64 t270, .string t271] 29 (0, 0)) (by (with_reducible repeat (first | refine blk_drewN ?_ _ | refine blk_drew ?_ | refine blk_alloc ?_ _)); refine blk_put (cs := #[.int .i64 t270, .string (⟨#[]⟩ : ByteArray)]) ?_ 1 _ rfl; (with_reducible repeat (first | refine blk_drewN ?_ _ | refine blk_drew ?_ | refine blk_alloc ?_ _)); refine blk_put (cs := #[.int .i64 0, .string (⟨#[]⟩ : ByteArray)]) ?_ 0 _ rfl; (with_reducible repeat (first | refine blk_drewN ?_ _ | refine blk_drew ?_ | refine blk_alloc ?_ _)); exact BK273.out) hb); have n2_ := Aside0.mk (below_step (by repeat (first | (with_reducible first | exact HB.out | apply below_alloc | apply pw_below_drewN | apply below_drew1 | refine below_set ?_ (IsS59.ge HI269.out) | refine below_set ?_ GE273.out) | exact HB.out)) hb); clear HI269; clear BK273; clear HB; have HI269 := n0_; have BK273 := n1_; have HB := n2_; clear n0_ n1_ n2_; (try clear hb); (try clear hb2); (try clear hk); (try clear hi)) | ((with_reducible refine gate_callee (f := 20) rfl ?_); refine goesL_ (some 30) rfl rfl Try.func20 (by kernel_rfl) rfl #[.int .i64 a1, .int .i64 8] rfl (by (try simp only [List.map_toArray, List.map_cons, List.map_nil]); first | done | rfl | (simp only [List.length_drop, List.length_take]; rfl)) ?_; (with_reducible refine (keyeventkit_Mod.calls a1 8 t276 _ A17.out).mono ?_); rintro e w' ⟨rfl, ⟨nd, rfl⟩⟩; refine ⟨_, rfl, ?_⟩) | ((with_reducible refine gate_callee (f := 21) rfl ?_); refine goesL_ (some 35) rfl rfl Try.func21 (by kernel_rfl) rfl #[.int .i64 (wrap64 (1 + t276)), .string t274] rfl (by (try simp only [List.map_toArray, List.map_cons, List.map_nil]); first | done | rfl | (simp only [List.length_drop, List.length_take]; rfl)) ?_; (with_reducible refine (primitive_Open.calls k (wrap64 (1 + t276)) t274 t277 t278 _ A18.out).mono ?_); rintro e w90 ⟨rfl, hb⟩; refine ⟨_, rfl, ?_⟩; have n0_ := Aside0.mk (IsS59.below (by repeat (first | (with_reducible first | exact HI269.out | apply IsS59.alloc | apply IsS59.drewN | apply IsS59.drew | apply IsS59.set_1 | refine IsS59.far ?_ NB269_273.out _) | exact HI269.out)) hb); have n1_ := Aside0.mk (blk_below (g := gb273) (o := .cells #[.int .i64 t270, .string t271] 29 (0, 0)) (by (with_reducible repeat (first | refine blk_drewN ?_ _ | refine blk_drew ?_ | refine blk_alloc ?_ _)); exact BK273.out) hb); have n2_ := Aside0.mk (below_step (by repeat (first | (with_reducible first | exact HB.out | apply below_alloc | apply pw_below_drewN | apply below_drew1 | refine below_set ?_ (IsS59.ge HI269.out) | refine below_set ?_ GE273.out) | exact HB.out)) hb); clear HI269; clear BK273; clear HB; have HI269 := n0_; have BK273 := n1_; have HB := n2_; clear n0_ n1_ n2_; (try clear hb); (try clear hb2); (try clear hk); (try clear hi); have hcz91_0 : w90.cell? ⟨gb273, 0, none⟩ = some (.int .i64 t270) := (blk_cell BK273.out 0).trans rfl; have hcz91_1 : w90.cell? ⟨gb273, 1, none⟩ = some (.string t271) := (blk_cell BK273.out 1).trans rfl; have hfz91_0 := blk_frozen BK273.out 0; have hfz91_1 := blk_frozen BK273.out 1) | ((with_reducible refine gate_callee (f := 21) rfl ?_); refine goesL_ (some 43) rfl rfl Try.func21 (by kernel_rfl) rfl #[.int .i64 t270, .string (t274 ++ (⟨#[65]⟩ : ByteArray))] rfl (by (try simp only [List.map_toArray, List.map_cons, List.map_nil]); first | done | rfl | (simp only [List.length_drop, List.length_take]; rfl)) ?_; (with_reducible refine (primitive_Open.calls k t270 (t274 ++ (⟨#[65]⟩ : ByteArray)) t279 t280 _ A20.out).mono ?_); rintro e w92 ⟨rfl, hb⟩; refine ⟨_, rfl, ?_⟩; have n0_ := Aside0.mk (IsS59.below (by repeat (first | (with_reducible first | exact HI269.out | apply IsS59.alloc | apply IsS59.drewN | apply IsS59.drew | apply IsS59.set_1 | refine IsS59.far ?_ NB269_273.out _) | exact HI269.out)) hb); have n1_ := Aside0.mk (blk_below (g := gb273) (o := .cells #[.int .i64 t270, .string t271] 29 (0, 0)) (by (with_reducible repeat (first | refine blk_drewN ?_ _ | refine blk_drew ?_ | refine blk_alloc ?_ _)); exact BK273.out) hb); have n2_ := Aside0.mk (below_step (by repeat (first | (with_reducible first | exact HB.out | apply below_alloc | apply pw_below_drewN | apply below_drew1 | refine below_set ?_ (IsS59.ge HI269.out) | refine below_set ?_ GE273.out) | exact HB.out)) hb); clear HI269; clear BK273; clear HB; have HI269 := n0_; have BK273 := n1_; have HB := n2_; clear n0_ n1_ n2_; (try clear hb); (try clear hb2); (try clear hk); (try clear hi)))
                      have n0_ := Aside0.mk (blk_drew BK273.out)
                      have n1_ := Aside0.mk (IsS59.drew HI269.out)
                      have n2_ := Aside0.mk (below_drew1 HB.out)
                      clear BK273
                      clear HI269
                      clear HB
                      have BK273 := n0_
                      have HI269 := n1_
                      have HB := n2_
                      clear n0_ n1_ n2_
                      refine start_ (n := 13) (S := fun w' => w'.cell? ⟨gb273, 0, none⟩ = some (.int .i64 t270) ∧ w'.cell? ⟨gb273, 1, none⟩ = some (.string t271)) (ds := []) #[false, false, false, false, false, false, false, false, false, false, false, false, false] (by kernel_rfl) rfl rfl ⟨(blk_cell BK273.out 0).trans rfl, (blk_cell BK273.out 1).trans rfl⟩ (fun hHeld => ?_); refine with_tabW keyeventlaw03_PrimitiveOpens.tab10 keyeventlaw03_PrimitiveOpens.bits10 (fun HT_ HW_ => ?_)
                      generalize w92.drew = w93 at BK273 HI269 HB hHeld ⊢
                      refine pure_ (i := 0) (N := some 47) (v := ?_) (a' := ?_) #[true, false, false, false, false, false, false, false, false, false, false, false, false] rfl rfl (any_of HT_.out (by kernel_rfl)) (fun _ _ _ h => h) (Or.inl ⟨by rfl, ?_⟩) ?_ ?_
                      rotate_left
                      · intro w'
                        go_simp
                        with_reducible rfl
                      rotate_left
                      · simp only [Act.put, List.setIfInBounds_toArray, List.set_cons_zero, List.set_cons_succ, i64_w, i32_w]
                        rfl
                      refine pure_ (i := 2) (N := some 49) (v := ?_) (a' := ?_) #[true, false, true, false, false, false, false, false, false, false, false, false, false] rfl rfl (any_of HT_.out (by kernel_rfl)) (fun _ _ _ h => h) (Or.inl ⟨by rfl, ?_⟩) ?_ ?_
                      rotate_left
                      · intro w'
                        go_simp
                        with_reducible rfl
                      rotate_left
                      · simp only [Act.put, List.setIfInBounds_toArray, List.set_cons_zero, List.set_cons_succ, i64_w, i32_w]
                        rfl
                      refine pure_ (i := 3) (N := some 50) (v := ?_) (a' := ?_) #[true, false, true, true, false, false, false, false, false, false, false, false, false] rfl rfl (any_of HT_.out (by kernel_rfl)) (fun _ _ _ h => h) (Or.inl ⟨by rfl, ?_⟩) ?_ ?_
                      rotate_left
                      · intro w'
                        go_simp
                        with_reducible rfl
                      rotate_left
                      · simp only [Act.put, List.setIfInBounds_toArray, List.set_cons_zero, List.set_cons_succ, i64_w, i32_w]
                        rfl
                      refine pure_ (i := 4) (N := some 51) (v := ?_) (a' := ?_) #[true, false, true, true, true, false, false, false, false, false, false, false, false] rfl rfl (any_of HT_.out (by kernel_rfl)) (fun _ _ _ h => h) (Or.inl ⟨by rfl, ?_⟩) ?_ ?_
                      rotate_left
                      · intro w'
                        go_simp
                        with_reducible rfl
                      rotate_left
                      · simp only [Act.put, List.setIfInBounds_toArray, List.set_cons_zero, List.set_cons_succ, i64_w, i32_w]
                        rfl
                      refine pure_ (i := 5) (N := some 52) (v := ?_) (a' := ?_) #[true, false, true, true, true, true, false, false, false, false, false, false, false] rfl rfl (any_of HT_.out (by kernel_rfl)) (fun _ _ _ h => h) (Or.inl ⟨by rfl, ?_⟩) ?_ ?_
                      rotate_left
                      · intro w'
                        go_simp
                        with_reducible rfl
                      rotate_left
                      · simp only [Act.put, List.setIfInBounds_toArray, List.set_cons_zero, List.set_cons_succ, i64_w, i32_w]
                        rfl
                      refine pure_ (i := 6) (N := some 53) (v := ?_) (a' := ?_) #[true, false, true, true, true, true, true, false, false, false, false, false, false] rfl rfl (any_of HT_.out (by kernel_rfl)) (fun _ _ _ h => h) (Or.inl ⟨by rfl, ?_⟩) ?_ ?_
                      rotate_left
                      · intro w'
                        go_simp
                        with_reducible rfl
                      rotate_left
                      · simp only [Act.put, List.setIfInBounds_toArray, List.set_cons_zero, List.set_cons_succ, i64_w, i32_w]
                        rfl
                      refine take_ (i := 1) (N := some 48) (v := ?_) (a' := ?_) #[true, true, true, true, true, true, true, false, false, false, false, false, false] rfl rfl (take_ofW HT_.out HW_.out (by kernel_rfl)) (fun _ _ _ h => h) (Or.inl ⟨by rfl, ?_⟩) hHeld ?_ ?_
                      rotate_left
                      · rintro w' ⟨s0, s1⟩
                        go_simp
                        with_reducible rfl
                      rotate_left
                      · simp only [Act.put, List.setIfInBounds_toArray, List.set_cons_zero, List.set_cons_succ, i64_w, i32_w]
                        rfl
                      refine one_ (i := 7) (N := some 54) #[true, true, true, true, true, true, true, true, false, false, false, false, false] rfl rfl (one_of HT_.out (by kernel_rfl)) (by decide) (fun K hK => ?_)
                      refine goes_ Try.func21 (by kernel_rfl) rfl #[.int .i64 t270, .string (t274.extract 0 ((ji21) : Int).toNat)] (by rfl) rfl rfl (by (try simp only [List.map_toArray, List.map_cons, List.map_nil]); first | done | (simp only [hji21]; rfl) | rfl | (simp only [List.length_drop, List.length_take]; rfl)) ?_
                      with_reducible refine (primitive_Open.calls k t270 (t274.extract 0 ((ji21) : Int).toNat) t281 t282 _ A24.out).mono ?_
                      rintro e w94 ⟨rfl, hb⟩
                      refine ⟨_, rfl, ?_⟩
                      have n0_ := Aside0.mk (IsS59.below (by repeat (first | (with_reducible first | exact HI269.out | apply IsS59.alloc | apply IsS59.drewN | apply IsS59.drew | apply IsS59.set_1 | refine IsS59.far ?_ NB269_273.out _) | exact HI269.out)) hb)
                      have n1_ := Aside0.mk (blk_below (g := gb273) (o := .cells #[.int .i64 t270, .string t271] 29 (0, 0)) (by (with_reducible repeat (first | refine blk_drewN ?_ _ | refine blk_drew ?_ | refine blk_alloc ?_ _)); exact BK273.out) hb)
                      have n2_ := Aside0.mk (below_step (by repeat (first | (with_reducible first | exact HB.out | apply below_alloc | apply pw_below_drewN | apply below_drew1 | refine below_set ?_ (IsS59.ge HI269.out) | refine below_set ?_ GE273.out) | exact HB.out)) hb)
                      clear HI269
                      clear BK273
                      clear HB
                      have HI269 := n0_
                      have BK273 := n1_
                      have HB := n2_
                      clear n0_ n1_ n2_
                      (try clear hb)
                      (try clear hb2)
                      (try clear hk)
                      (try clear hi)
                      refine hK.out _ _ ⟨(blk_cell BK273.out 0).trans rfl, (blk_cell BK273.out 1).trans rfl⟩ (fun hHeld => ?_)
                      clear hK K
                      refine norm_ (a' := ?_) ?_ ?_
                      rotate_left
                      · show Act.put _ (some 54) _ = _
                        simp only [Act.put, List.setIfInBounds_toArray, List.set_cons_zero, List.set_cons_succ, i64_w, i32_w]
                        rfl
                      refine pure_ (i := 8) (N := some 46) (v := ?_) (a' := ?_) #[true, true, true, true, true, true, true, true, true, false, false, false, false] rfl rfl (any_of HT_.out (by kernel_rfl)) (fun _ _ _ h => h) (Or.inl ⟨by rfl, ?_⟩) ?_ ?_
                      rotate_left
                      · intro w'
                        go_simp
                        with_reducible rfl
                      rotate_left
                      · simp only [Act.put, List.setIfInBounds_toArray, List.set_cons_zero, List.set_cons_succ, i64_w, i32_w]
                        rfl
                      refine pure_ (i := 9) (N := some 55) (v := ?_) (a' := ?_) #[true, true, true, true, true, true, true, true, true, true, false, false, false] rfl rfl (any_of HT_.out (by kernel_rfl)) (fun _ _ _ h => h) (Or.inl ⟨by rfl, ?_⟩) ?_ ?_
                      rotate_left
                      · intro w'
                        go_simp
                        with_reducible rfl
                      rotate_left
                      · simp only [Act.put, List.setIfInBounds_toArray, List.set_cons_zero, List.set_cons_succ, i64_w, i32_w]
                        rfl
                      refine pure_ (i := 10) (N := some 56) (v := ?_) (a' := ?_) #[true, true, true, true, true, true, true, true, true, true, true, false, false] rfl rfl (any_of HT_.out (by kernel_rfl)) (fun _ _ _ h => h) (Or.inl ⟨by rfl, ?_⟩) ?_ ?_
                      rotate_left
                      · intro w'
                        go_simp
                        with_reducible rfl
                      rotate_left
                      · simp only [Act.put, List.setIfInBounds_toArray, List.set_cons_zero, List.set_cons_succ, i64_w, i32_w]
                        rfl
                      refine pure_ (i := 11) (N := some 12) (v := ?_) (a' := ?_) #[true, true, true, true, true, true, true, true, true, true, true, true, false] rfl rfl (any_of HT_.out (by kernel_rfl)) (fun _ _ _ h => h) (Or.inl ⟨by rfl, ?_⟩) ?_ ?_
                      rotate_left
                      · intro w'
                        go_simp
                        with_reducible rfl
                      rotate_left
                      · simp only [Act.put, List.setIfInBounds_toArray, List.set_cons_zero, List.set_cons_succ, i64_w, i32_w]
                        rfl
                      refine pure_ (i := 12) (N := some 13) (v := ?_) (a' := ?_) #[true, true, true, true, true, true, true, true, true, true, true, true, true] rfl rfl (any_of HT_.out (by kernel_rfl)) (fun _ _ _ h => h) (Or.inl ⟨by rfl, ?_⟩) ?_ ?_
                      rotate_left
                      · intro w'
                        go_simp
                        with_reducible rfl
                      rotate_left
                      · simp only [Act.put, List.setIfInBounds_toArray, List.set_cons_zero, List.set_cons_succ, i64_w, i32_w]
                        rfl
                      refine done_ (done_of HT_.out (by kernel_rfl)) ?_
                      have hcz95_0 : w94.cell? ⟨gb273, 0, none⟩ = some (.int .i64 t270) := (blk_cell BK273.out 0).trans rfl
                      have hcz95_1 : w94.cell? ⟨gb273, 1, none⟩ = some (.string t271) := (blk_cell BK273.out 1).trans rfl
                      have hfz95_0 := blk_frozen BK273.out 0
                      have hfz95_1 := blk_frozen BK273.out 1
                      try go_wp2_with (first | (go_at_call 9; (with_reducible refine (keyeventlaw03_awake.calls k  t284 _ A83.out).mono ?_); rintro e w96 ⟨rfl, hb⟩; have n0_ := Aside0.mk (IsS59.below (by repeat (first | (with_reducible first | exact HI269.out | apply IsS59.alloc | apply IsS59.drewN | apply IsS59.drew | apply IsS59.set_1 | refine IsS59.far ?_ NB269_273.out _) | exact HI269.out)) hb); have n1_ := Aside0.mk (blk_below (g := gb273) (o := .cells #[.int .i64 t270, .string t271] 29 (0, 0)) (by (with_reducible repeat (first | refine blk_drewN ?_ _ | refine blk_drew ?_ | refine blk_alloc ?_ _)); exact BK273.out) hb); have n2_ := Aside0.mk (below_step (by repeat (first | (with_reducible first | exact HB.out | apply below_alloc | apply pw_below_drewN | apply below_drew1 | refine below_set ?_ (IsS59.ge HI269.out) | refine below_set ?_ GE273.out) | exact HB.out)) hb); clear HI269; clear BK273; clear HB; have HI269 := n0_; have BK273 := n1_; have HB := n2_; clear n0_ n1_ n2_; (try clear hb); (try clear hb2); (try clear hk); (try clear hi)))
                      go_ret
                      exact ⟨by first | rfl | (simp [errW_none, errW_some] <;> rfl) | (simp only [← hji21]; first | rfl | (simp [errW_none, errW_some] <;> rfl)) | (simp [*, errW_none, errW_some] <;> rfl), by repeat (first | (with_reducible first | exact HB.out | apply below_alloc | apply pw_below_drewN | apply below_drew1 | refine below_set ?_ (IsS59.ge HI269.out) | refine below_set ?_ GE273.out) | exact HB.out)⟩
                    · rw [if_neg c82] at H
                      have c82b0 : (t282 == 8) = false := beq_eq_false_iff_ne.mpr c82
                      have c82b1 : (t282 != 8) = true := bne_iff_ne.mpr c82
                      obtain rfl := Option.some.inj H
                      go_enter Try.func6, Try.ntmps6
                      try go_wp2_with (first | ((with_reducible refine gate_callee (f := 8) rfl ?_); refine goesL_ (some 15) rfl rfl Try.func8 (by kernel_rfl) rfl #[.slice A0 l0.length c0] rfl (by (try simp only [List.map_toArray, List.map_cons, List.map_nil]); first | done | rfl | (simp only [List.length_drop, List.length_take]; rfl)) ?_; (with_reducible refine (keyeventkit_Light.calls _ _ l0 true _ ?side1 ?side2 A3.out).mono ?_); (case side1 => repeat (first | exact HR0.out | (with_reducible refine Kd.C_alloc ?_ _) | (with_reducible refine Kd.C_drewN ?_ _) | (with_reducible refine Kd.C_drew ?_))); (case side2 => exact HC0.out); rintro e w' ⟨rfl, ⟨nd, rfl⟩⟩; refine ⟨_, rfl, ?_⟩) | ((with_reducible refine gate_callee (f := 12) rfl ?_); refine goesL_ (some 19) rfl rfl Try.func12 (by kernel_rfl) rfl #[.slice A0 l0.length c0] rfl (by (try simp only [List.map_toArray, List.map_cons, List.map_nil]); first | done | rfl | (simp only [List.length_drop, List.length_take]; rfl)) ?_; (with_reducible refine (keyeventkit_Roll.calls _ _ l0 t267 t268 w _ ?side1 ?side2 ?side3 A5.out).mono ?_); (case side1 => repeat (first | (with_reducible first | exact HB.out | apply below_alloc | apply pw_below_drewN | apply below_drew1) | exact HB.out)); (case side2 => exact HR0.out); (case side3 => exact HC0.out); rintro e w97 ⟨g269, rfl, hi, hb, hb2⟩; refine ⟨_, rfl, ?_⟩; have n0_ := Aside0.mk (hb); have n1_ := Aside0.mk (hi); clear HB; have HB := n0_; have HI269 := n1_; clear n0_ n1_; (try clear hb); (try clear hb2); (try clear hk); (try clear hi)) | ((with_reducible refine gate_callee (f := 11) rfl ?_); refine goesL_ (some 20) rfl rfl Try.func11 (by kernel_rfl) rfl #[.pointer (some ⟨g269, 0, none⟩)] rfl (by (try simp only [List.map_toArray, List.map_cons, List.map_nil]); first | done | rfl | (simp only [List.length_drop, List.length_take]; rfl)) ?_; (with_reducible refine (keyeventkit_Primitive.calls k g269 t267 t268 t270 t271 t272 w _ ?side1 ?side2 A6.out).mono ?_); (case side1 => repeat (first | (with_reducible first | exact HI269.out | apply IsS59.alloc | apply IsS59.drewN | apply IsS59.drew | apply IsS59.set_1) | exact HI269.out)); (case side2 => repeat (first | (with_reducible first | exact HB.out | apply below_alloc | apply pw_below_drewN | apply below_drew1 | refine below_set ?_ (IsS59.ge HI269.out)) | exact HB.out)); rintro e w98 ⟨rfl, hi, hb, hk⟩; refine ⟨_, rfl, ?_⟩; have n0_ := Aside0.mk (hb); have n1_ := Aside0.mk (hi); clear HB; clear HI269; have HB := n0_; have HI269 := n1_; clear n0_ n1_; (try clear hb); (try clear hb2); (try clear hk); (try clear hi)) | ((with_reducible refine gate_dst (N := 5) rfl ?_); refine box_event ?hg (N := 5) ?hd (cs := #[.int .i64 0, .string (⟨#[]⟩ : ByteArray)]) (t := 29) ?hr ?_; (case hd => rfl); (case hg => rfl); (case hr => first | (go_simp; done) | (go_simp; rfl)); intro gb273 hg w99 hbox hb; have n0_ := Aside0.mk (IsS59.below (by repeat (first | (with_reducible first | exact HI269.out | apply IsS59.alloc | apply IsS59.drewN | apply IsS59.drew | apply IsS59.set_1) | exact HI269.out)) hb); have n1_ := Aside0.mk (below_step (by repeat (first | (with_reducible first | exact HB.out | apply below_alloc | apply pw_below_drewN | apply below_drew1 | refine below_set ?_ (IsS59.ge HI269.out)) | exact HB.out)) hb); have n2_ := Aside0.mk (hbox); have n3_ := Aside0.mk ((by rw [hg]; exact (below_size (by repeat (first | (with_reducible first | exact HB.out | apply below_alloc | apply pw_below_drewN | apply below_drew1 | refine below_set ?_ (IsS59.ge HI269.out)) | exact HB.out))) : w.heap.size ≤ gb273)); have n4_ := Aside0.mk ((by rw [hg]; exact (below_size (by repeat (first | (with_reducible first | exact HB.out | apply below_alloc | apply pw_below_drewN | apply below_drew1 | refine below_set ?_ (IsS59.ge HI269.out)) | exact HB.out))) : w.heap.size ≤ gb273)); have n5_ := Aside0.mk ((by rw [hg]; exact Nat.ne_of_lt (IsS59.lt (show IsS59 w _ g269 t267 t272 from by repeat (first | (with_reducible first | exact HI269.out | apply IsS59.alloc | apply IsS59.drewN | apply IsS59.drew | apply IsS59.set_1) | exact HI269.out))) : g269 ≠ gb273)); have n6_ := Aside0.mk ((by rw [hg]; exact Nat.ne_of_gt (IsS59.lt (show IsS59 w _ g269 t267 t272 from by repeat (first | (with_reducible first | exact HI269.out | apply IsS59.alloc | apply IsS59.drewN | apply IsS59.drew | apply IsS59.set_1) | exact HI269.out))) : gb273 ≠ g269)); clear HI269; clear HB; have HI269 := n0_; have HB := n1_; have BK273 := n2_; have GW273 := n3_; have GE273 := n4_; have NB269_273 := n5_; have NB273_269 := n6_; clear n0_ n1_ n2_ n3_ n4_ n5_ n6_; clear hb hbox hg; have hnb100 := NB273_269.out; have hnc100 := NB269_273.out; have hcz101_0 : w99.cell? ⟨gb273, 0, none⟩ = some (.int .i64 0) := (blk_cell BK273.out 0).trans rfl; have hcz101_1 : w99.cell? ⟨gb273, 1, none⟩ = some (.string (⟨#[]⟩ : ByteArray)) := (blk_cell BK273.out 1).trans rfl; have hfz101_0 := blk_frozen BK273.out 0; have hfz101_1 := blk_frozen BK273.out 1) | ((with_reducible refine gate_callee (f := 19) rfl ?_); refine goesL_ (some 25) rfl rfl Try.func19 (by kernel_rfl) rfl #[.int .i64 t270, .string t271] rfl (by (try simp only [List.map_toArray, List.map_cons, List.map_nil]); first | done | rfl | (simp only [List.length_drop, List.length_take]; rfl)) ?_; (with_reducible refine (primitive_Make.calls k t270 t271 t274 _ A7.out).mono ?_); rintro e w102 ⟨rfl, hb⟩; refine ⟨_, rfl, ?_⟩; have n0_ := Aside0.mk (IsS59.below (show IsS59 w ((w99.setCell ⟨gb273, 0, none⟩ (.int .i64 t270)).setCell ⟨gb273, 1, none⟩ (.string t271)) g269 t267 t272 from by repeat (first | (with_reducible first | exact HI269.out | apply IsS59.alloc | apply IsS59.drewN | apply IsS59.drew | apply IsS59.set_1 | refine IsS59.far ?_ NB269_273.out _) | exact HI269.out)) hb); have n1_ := Aside0.mk (blk_below (g := gb273) (o := .cells #[.int .i64 t270, .string t271] 29 (0, 0)) (by (with_reducible repeat (first | refine blk_drewN ?_ _ | refine blk_drew ?_ | refine blk_alloc ?_ _)); refine blk_put (cs := #[.int .i64 t270, .string (⟨#[]⟩ : ByteArray)]) ?_ 1 _ rfl; (with_reducible repeat (first | refine blk_drewN ?_ _ | refine blk_drew ?_ | refine blk_alloc ?_ _)); refine blk_put (cs := #[.int .i64 0, .string (⟨#[]⟩ : ByteArray)]) ?_ 0 _ rfl; (with_reducible repeat (first | refine blk_drewN ?_ _ | refine blk_drew ?_ | refine blk_alloc ?_ _)); exact BK273.out) hb); have n2_ := Aside0.mk (below_step (by repeat (first | (with_reducible first | exact HB.out | apply below_alloc | apply pw_below_drewN | apply below_drew1 | refine below_set ?_ (IsS59.ge HI269.out) | refine below_set ?_ GE273.out) | exact HB.out)) hb); clear HI269; clear BK273; clear HB; have HI269 := n0_; have BK273 := n1_; have HB := n2_; clear n0_ n1_ n2_; (try clear hb); (try clear hb2); (try clear hk); (try clear hi)) | ((with_reducible refine gate_callee (f := 20) rfl ?_); refine goesL_ (some 30) rfl rfl Try.func20 (by kernel_rfl) rfl #[.int .i64 a1, .int .i64 8] rfl (by (try simp only [List.map_toArray, List.map_cons, List.map_nil]); first | done | rfl | (simp only [List.length_drop, List.length_take]; rfl)) ?_; (with_reducible refine (keyeventkit_Mod.calls a1 8 t276 _ A17.out).mono ?_); rintro e w' ⟨rfl, ⟨nd, rfl⟩⟩; refine ⟨_, rfl, ?_⟩) | ((with_reducible refine gate_callee (f := 21) rfl ?_); refine goesL_ (some 35) rfl rfl Try.func21 (by kernel_rfl) rfl #[.int .i64 (wrap64 (1 + t276)), .string t274] rfl (by (try simp only [List.map_toArray, List.map_cons, List.map_nil]); first | done | rfl | (simp only [List.length_drop, List.length_take]; rfl)) ?_; (with_reducible refine (primitive_Open.calls k (wrap64 (1 + t276)) t274 t277 t278 _ A18.out).mono ?_); rintro e w103 ⟨rfl, hb⟩; refine ⟨_, rfl, ?_⟩; have n0_ := Aside0.mk (IsS59.below (by repeat (first | (with_reducible first | exact HI269.out | apply IsS59.alloc | apply IsS59.drewN | apply IsS59.drew | apply IsS59.set_1 | refine IsS59.far ?_ NB269_273.out _) | exact HI269.out)) hb); have n1_ := Aside0.mk (blk_below (g := gb273) (o := .cells #[.int .i64 t270, .string t271] 29 (0, 0)) (by (with_reducible repeat (first | refine blk_drewN ?_ _ | refine blk_drew ?_ | refine blk_alloc ?_ _)); exact BK273.out) hb); have n2_ := Aside0.mk (below_step (by repeat (first | (with_reducible first | exact HB.out | apply below_alloc | apply pw_below_drewN | apply below_drew1 | refine below_set ?_ (IsS59.ge HI269.out) | refine below_set ?_ GE273.out) | exact HB.out)) hb); clear HI269; clear BK273; clear HB; have HI269 := n0_; have BK273 := n1_; have HB := n2_; clear n0_ n1_ n2_; (try clear hb); (try clear hb2); (try clear hk); (try clear hi); have hcz104_0 : w103.cell? ⟨gb273, 0, none⟩ = some (.int .i64 t270) := (blk_cell BK273.out 0).trans rfl; have hcz104_1 : w103.cell? ⟨gb273, 1, none⟩ = some (.string t271) := (blk_cell BK273.out 1).trans rfl; have hfz104_0 := blk_frozen BK273.out 0; have hfz104_1 := blk_frozen BK273.out 1) | ((with_reducible refine gate_callee (f := 21) rfl ?_); refine goesL_ (some 43) rfl rfl Try.func21 (by kernel_rfl) rfl #[.int .i64 t270, .string (t274 ++ (⟨#[65]⟩ : ByteArray))] rfl (by (try simp only [List.map_toArray, List.map_cons, List.map_nil]); first | done | rfl | (simp only [List.length_drop, List.length_take]; rfl)) ?_; (with_reducible refine (primitive_Open.calls k t270 (t274 ++ (⟨#[65]⟩ : ByteArray)) t279 t280 _ A20.out).mono ?_); rintro e w105 ⟨rfl, hb⟩; refine ⟨_, rfl, ?_⟩; have n0_ := Aside0.mk (IsS59.below (by repeat (first | (with_reducible first | exact HI269.out | apply IsS59.alloc | apply IsS59.drewN | apply IsS59.drew | apply IsS59.set_1 | refine IsS59.far ?_ NB269_273.out _) | exact HI269.out)) hb); have n1_ := Aside0.mk (blk_below (g := gb273) (o := .cells #[.int .i64 t270, .string t271] 29 (0, 0)) (by (with_reducible repeat (first | refine blk_drewN ?_ _ | refine blk_drew ?_ | refine blk_alloc ?_ _)); exact BK273.out) hb); have n2_ := Aside0.mk (below_step (by repeat (first | (with_reducible first | exact HB.out | apply below_alloc | apply pw_below_drewN | apply below_drew1 | refine below_set ?_ (IsS59.ge HI269.out) | refine below_set ?_ GE273.out) | exact HB.out)) hb); clear HI269; clear BK273; clear HB; have HI269 := n0_; have BK273 := n1_; have HB := n2_; clear n0_ n1_ n2_; (try clear hb); (try clear hb2); (try clear hk); (try clear hi)))
                      have n0_ := Aside0.mk (blk_drew BK273.out)
                      have n1_ := Aside0.mk (IsS59.drew HI269.out)
                      have n2_ := Aside0.mk (below_drew1 HB.out)
                      clear BK273
                      clear HI269
                      clear HB
                      have BK273 := n0_
                      have HI269 := n1_
                      have HB := n2_
                      clear n0_ n1_ n2_
                      refine start_ (n := 13) (S := fun w' => w'.cell? ⟨gb273, 0, none⟩ = some (.int .i64 t270) ∧ w'.cell? ⟨gb273, 1, none⟩ = some (.string t271)) (ds := []) #[false, false, false, false, false, false, false, false, false, false, false, false, false] (by kernel_rfl) rfl rfl ⟨(blk_cell BK273.out 0).trans rfl, (blk_cell BK273.out 1).trans rfl⟩ (fun hHeld => ?_); refine with_tabW keyeventlaw03_PrimitiveOpens.tab10 keyeventlaw03_PrimitiveOpens.bits10 (fun HT_ HW_ => ?_)
                      generalize w105.drew = w106 at BK273 HI269 HB hHeld ⊢
                      refine pure_ (i := 0) (N := some 47) (v := ?_) (a' := ?_) #[true, false, false, false, false, false, false, false, false, false, false, false, false] rfl rfl (any_of HT_.out (by kernel_rfl)) (fun _ _ _ h => h) (Or.inl ⟨by rfl, ?_⟩) ?_ ?_
                      rotate_left
                      · intro w'
                        go_simp
                        with_reducible rfl
                      rotate_left
                      · simp only [Act.put, List.setIfInBounds_toArray, List.set_cons_zero, List.set_cons_succ, i64_w, i32_w]
                        rfl
                      refine pure_ (i := 2) (N := some 49) (v := ?_) (a' := ?_) #[true, false, true, false, false, false, false, false, false, false, false, false, false] rfl rfl (any_of HT_.out (by kernel_rfl)) (fun _ _ _ h => h) (Or.inl ⟨by rfl, ?_⟩) ?_ ?_
                      rotate_left
                      · intro w'
                        go_simp
                        with_reducible rfl
                      rotate_left
                      · simp only [Act.put, List.setIfInBounds_toArray, List.set_cons_zero, List.set_cons_succ, i64_w, i32_w]
                        rfl
                      refine pure_ (i := 3) (N := some 50) (v := ?_) (a' := ?_) #[true, false, true, true, false, false, false, false, false, false, false, false, false] rfl rfl (any_of HT_.out (by kernel_rfl)) (fun _ _ _ h => h) (Or.inl ⟨by rfl, ?_⟩) ?_ ?_
                      rotate_left
                      · intro w'
                        go_simp
                        with_reducible rfl
                      rotate_left
                      · simp only [Act.put, List.setIfInBounds_toArray, List.set_cons_zero, List.set_cons_succ, i64_w, i32_w]
                        rfl
                      refine pure_ (i := 4) (N := some 51) (v := ?_) (a' := ?_) #[true, false, true, true, true, false, false, false, false, false, false, false, false] rfl rfl (any_of HT_.out (by kernel_rfl)) (fun _ _ _ h => h) (Or.inl ⟨by rfl, ?_⟩) ?_ ?_
                      rotate_left
                      · intro w'
                        go_simp
                        with_reducible rfl
                      rotate_left
                      · simp only [Act.put, List.setIfInBounds_toArray, List.set_cons_zero, List.set_cons_succ, i64_w, i32_w]
                        rfl
                      refine pure_ (i := 5) (N := some 52) (v := ?_) (a' := ?_) #[true, false, true, true, true, true, false, false, false, false, false, false, false] rfl rfl (any_of HT_.out (by kernel_rfl)) (fun _ _ _ h => h) (Or.inl ⟨by rfl, ?_⟩) ?_ ?_
                      rotate_left
                      · intro w'
                        go_simp
                        with_reducible rfl
                      rotate_left
                      · simp only [Act.put, List.setIfInBounds_toArray, List.set_cons_zero, List.set_cons_succ, i64_w, i32_w]
                        rfl
                      refine pure_ (i := 6) (N := some 53) (v := ?_) (a' := ?_) #[true, false, true, true, true, true, true, false, false, false, false, false, false] rfl rfl (any_of HT_.out (by kernel_rfl)) (fun _ _ _ h => h) (Or.inl ⟨by rfl, ?_⟩) ?_ ?_
                      rotate_left
                      · intro w'
                        go_simp
                        with_reducible rfl
                      rotate_left
                      · simp only [Act.put, List.setIfInBounds_toArray, List.set_cons_zero, List.set_cons_succ, i64_w, i32_w]
                        rfl
                      refine take_ (i := 1) (N := some 48) (v := ?_) (a' := ?_) #[true, true, true, true, true, true, true, false, false, false, false, false, false] rfl rfl (take_ofW HT_.out HW_.out (by kernel_rfl)) (fun _ _ _ h => h) (Or.inl ⟨by rfl, ?_⟩) hHeld ?_ ?_
                      rotate_left
                      · rintro w' ⟨s0, s1⟩
                        go_simp
                        with_reducible rfl
                      rotate_left
                      · simp only [Act.put, List.setIfInBounds_toArray, List.set_cons_zero, List.set_cons_succ, i64_w, i32_w]
                        rfl
                      refine one_ (i := 7) (N := some 54) #[true, true, true, true, true, true, true, true, false, false, false, false, false] rfl rfl (one_of HT_.out (by kernel_rfl)) (by decide) (fun K hK => ?_)
                      refine goes_ Try.func21 (by kernel_rfl) rfl #[.int .i64 t270, .string (t274.extract 0 ((ji21) : Int).toNat)] (by rfl) rfl rfl (by (try simp only [List.map_toArray, List.map_cons, List.map_nil]); first | done | (simp only [hji21]; rfl) | rfl | (simp only [List.length_drop, List.length_take]; rfl)) ?_
                      with_reducible refine (primitive_Open.calls k t270 (t274.extract 0 ((ji21) : Int).toNat) t281 t282 _ A24.out).mono ?_
                      rintro e w107 ⟨rfl, hb⟩
                      refine ⟨_, rfl, ?_⟩
                      have n0_ := Aside0.mk (IsS59.below (by repeat (first | (with_reducible first | exact HI269.out | apply IsS59.alloc | apply IsS59.drewN | apply IsS59.drew | apply IsS59.set_1 | refine IsS59.far ?_ NB269_273.out _) | exact HI269.out)) hb)
                      have n1_ := Aside0.mk (blk_below (g := gb273) (o := .cells #[.int .i64 t270, .string t271] 29 (0, 0)) (by (with_reducible repeat (first | refine blk_drewN ?_ _ | refine blk_drew ?_ | refine blk_alloc ?_ _)); exact BK273.out) hb)
                      have n2_ := Aside0.mk (below_step (by repeat (first | (with_reducible first | exact HB.out | apply below_alloc | apply pw_below_drewN | apply below_drew1 | refine below_set ?_ (IsS59.ge HI269.out) | refine below_set ?_ GE273.out) | exact HB.out)) hb)
                      clear HI269
                      clear BK273
                      clear HB
                      have HI269 := n0_
                      have BK273 := n1_
                      have HB := n2_
                      clear n0_ n1_ n2_
                      (try clear hb)
                      (try clear hb2)
                      (try clear hk)
                      (try clear hi)
                      refine hK.out _ _ ⟨(blk_cell BK273.out 0).trans rfl, (blk_cell BK273.out 1).trans rfl⟩ (fun hHeld => ?_)
                      clear hK K
                      refine norm_ (a' := ?_) ?_ ?_
                      rotate_left
                      · show Act.put _ (some 54) _ = _
                        simp only [Act.put, List.setIfInBounds_toArray, List.set_cons_zero, List.set_cons_succ, i64_w, i32_w]
                        rfl
                      refine pure_ (i := 8) (N := some 46) (v := ?_) (a' := ?_) #[true, true, true, true, true, true, true, true, true, false, false, false, false] rfl rfl (any_of HT_.out (by kernel_rfl)) (fun _ _ _ h => h) (Or.inl ⟨by rfl, ?_⟩) ?_ ?_
                      rotate_left
                      · intro w'
                        go_simp
                        with_reducible rfl
                      rotate_left
                      · simp only [Act.put, List.setIfInBounds_toArray, List.set_cons_zero, List.set_cons_succ, i64_w, i32_w]
                        rfl
                      refine pure_ (i := 9) (N := some 55) (v := ?_) (a' := ?_) #[true, true, true, true, true, true, true, true, true, true, false, false, false] rfl rfl (any_of HT_.out (by kernel_rfl)) (fun _ _ _ h => h) (Or.inl ⟨by rfl, ?_⟩) ?_ ?_
                      rotate_left
                      · intro w'
                        go_simp
                        with_reducible rfl
                      rotate_left
                      · simp only [Act.put, List.setIfInBounds_toArray, List.set_cons_zero, List.set_cons_succ, i64_w, i32_w]
                        rfl
                      refine pure_ (i := 10) (N := some 56) (v := ?_) (a' := ?_) #[true, true, true, true, true, true, true, true, true, true, true, false, false] rfl rfl (any_of HT_.out (by kernel_rfl)) (fun _ _ _ h => h) (Or.inl ⟨by rfl, ?_⟩) ?_ ?_
                      rotate_left
                      · intro w'
                        go_simp
                        with_reducible rfl
                      rotate_left
                      · simp only [Act.put, List.setIfInBounds_toArray, List.set_cons_zero, List.set_cons_succ, i64_w, i32_w]
                        rfl
                      refine pure_ (i := 11) (N := some 12) (v := ?_) (a' := ?_) #[true, true, true, true, true, true, true, true, true, true, true, true, false] rfl rfl (any_of HT_.out (by kernel_rfl)) (fun _ _ _ h => h) (Or.inl ⟨by rfl, ?_⟩) ?_ ?_
                      rotate_left
                      · intro w'
                        go_simp
                        with_reducible rfl
                      rotate_left
                      · simp only [Act.put, List.setIfInBounds_toArray, List.set_cons_zero, List.set_cons_succ, i64_w, i32_w]
                        rfl
                      refine pure_ (i := 12) (N := some 13) (v := ?_) (a' := ?_) #[true, true, true, true, true, true, true, true, true, true, true, true, true] rfl rfl (any_of HT_.out (by kernel_rfl)) (fun _ _ _ h => h) (Or.inl ⟨by rfl, ?_⟩) ?_ ?_
                      rotate_left
                      · intro w'
                        go_simp
                        with_reducible rfl
                      rotate_left
                      · simp only [Act.put, List.setIfInBounds_toArray, List.set_cons_zero, List.set_cons_succ, i64_w, i32_w]
                        rfl
                      refine done_ (done_of HT_.out (by kernel_rfl)) ?_
                      have hcz108_0 : w107.cell? ⟨gb273, 0, none⟩ = some (.int .i64 t270) := (blk_cell BK273.out 0).trans rfl
                      have hcz108_1 : w107.cell? ⟨gb273, 1, none⟩ = some (.string t271) := (blk_cell BK273.out 1).trans rfl
                      have hfz108_0 := blk_frozen BK273.out 0
                      have hfz108_1 := blk_frozen BK273.out 1
                      try go_wp2
                      go_ret
                      exact ⟨by first | rfl | (simp [errW_none, errW_some] <;> rfl) | (simp only [← hji21]; first | rfl | (simp [errW_none, errW_some] <;> rfl)) | (simp [*, errW_none, errW_some] <;> rfl), by repeat (first | (with_reducible first | exact HB.out | apply below_alloc | apply pw_below_drewN | apply below_drew1 | refine below_set ?_ (IsS59.ge HI269.out) | refine below_set ?_ GE273.out) | exact HB.out)⟩
                  · rw [if_neg c81] at H
                    have c81b0 : (t280 == 8) = false := beq_eq_false_iff_ne.mpr c81
                    have c81b1 : (t280 != 8) = true := bne_iff_ne.mpr c81
                    obtain rfl := Option.some.inj H
                    go_enter Try.func6, Try.ntmps6
                    try go_wp2_with (first | ((with_reducible refine gate_callee (f := 8) rfl ?_); refine goesL_ (some 15) rfl rfl Try.func8 (by kernel_rfl) rfl #[.slice A0 l0.length c0] rfl (by (try simp only [List.map_toArray, List.map_cons, List.map_nil]); first | done | rfl | (simp only [List.length_drop, List.length_take]; rfl)) ?_; (with_reducible refine (keyeventkit_Light.calls _ _ l0 true _ ?side1 ?side2 A3.out).mono ?_); (case side1 => repeat (first | exact HR0.out | (with_reducible refine Kd.C_alloc ?_ _) | (with_reducible refine Kd.C_drewN ?_ _) | (with_reducible refine Kd.C_drew ?_))); (case side2 => exact HC0.out); rintro e w' ⟨rfl, ⟨nd, rfl⟩⟩; refine ⟨_, rfl, ?_⟩) | ((with_reducible refine gate_callee (f := 12) rfl ?_); refine goesL_ (some 19) rfl rfl Try.func12 (by kernel_rfl) rfl #[.slice A0 l0.length c0] rfl (by (try simp only [List.map_toArray, List.map_cons, List.map_nil]); first | done | rfl | (simp only [List.length_drop, List.length_take]; rfl)) ?_; (with_reducible refine (keyeventkit_Roll.calls _ _ l0 t267 t268 w _ ?side1 ?side2 ?side3 A5.out).mono ?_); (case side1 => repeat (first | (with_reducible first | exact HB.out | apply below_alloc | apply pw_below_drewN | apply below_drew1) | exact HB.out)); (case side2 => exact HR0.out); (case side3 => exact HC0.out); rintro e w109 ⟨g269, rfl, hi, hb, hb2⟩; refine ⟨_, rfl, ?_⟩; have n0_ := Aside0.mk (hb); have n1_ := Aside0.mk (hi); clear HB; have HB := n0_; have HI269 := n1_; clear n0_ n1_; (try clear hb); (try clear hb2); (try clear hk); (try clear hi)) | ((with_reducible refine gate_callee (f := 11) rfl ?_); refine goesL_ (some 20) rfl rfl Try.func11 (by kernel_rfl) rfl #[.pointer (some ⟨g269, 0, none⟩)] rfl (by (try simp only [List.map_toArray, List.map_cons, List.map_nil]); first | done | rfl | (simp only [List.length_drop, List.length_take]; rfl)) ?_; (with_reducible refine (keyeventkit_Primitive.calls k g269 t267 t268 t270 t271 t272 w _ ?side1 ?side2 A6.out).mono ?_); (case side1 => repeat (first | (with_reducible first | exact HI269.out | apply IsS59.alloc | apply IsS59.drewN | apply IsS59.drew | apply IsS59.set_1) | exact HI269.out)); (case side2 => repeat (first | (with_reducible first | exact HB.out | apply below_alloc | apply pw_below_drewN | apply below_drew1 | refine below_set ?_ (IsS59.ge HI269.out)) | exact HB.out)); rintro e w110 ⟨rfl, hi, hb, hk⟩; refine ⟨_, rfl, ?_⟩; have n0_ := Aside0.mk (hb); have n1_ := Aside0.mk (hi); clear HB; clear HI269; have HB := n0_; have HI269 := n1_; clear n0_ n1_; (try clear hb); (try clear hb2); (try clear hk); (try clear hi)) | ((with_reducible refine gate_dst (N := 5) rfl ?_); refine box_event ?hg (N := 5) ?hd (cs := #[.int .i64 0, .string (⟨#[]⟩ : ByteArray)]) (t := 29) ?hr ?_; (case hd => rfl); (case hg => rfl); (case hr => first | (go_simp; done) | (go_simp; rfl)); intro gb273 hg w111 hbox hb; have n0_ := Aside0.mk (IsS59.below (by repeat (first | (with_reducible first | exact HI269.out | apply IsS59.alloc | apply IsS59.drewN | apply IsS59.drew | apply IsS59.set_1) | exact HI269.out)) hb); have n1_ := Aside0.mk (below_step (by repeat (first | (with_reducible first | exact HB.out | apply below_alloc | apply pw_below_drewN | apply below_drew1 | refine below_set ?_ (IsS59.ge HI269.out)) | exact HB.out)) hb); have n2_ := Aside0.mk (hbox); have n3_ := Aside0.mk ((by rw [hg]; exact (below_size (by repeat (first | (with_reducible first | exact HB.out | apply below_alloc | apply pw_below_drewN | apply below_drew1 | refine below_set ?_ (IsS59.ge HI269.out)) | exact HB.out))) : w.heap.size ≤ gb273)); have n4_ := Aside0.mk ((by rw [hg]; exact (below_size (by repeat (first | (with_reducible first | exact HB.out | apply below_alloc | apply pw_below_drewN | apply below_drew1 | refine below_set ?_ (IsS59.ge HI269.out)) | exact HB.out))) : w.heap.size ≤ gb273)); have n5_ := Aside0.mk ((by rw [hg]; exact Nat.ne_of_lt (IsS59.lt (show IsS59 w _ g269 t267 t272 from by repeat (first | (with_reducible first | exact HI269.out | apply IsS59.alloc | apply IsS59.drewN | apply IsS59.drew | apply IsS59.set_1) | exact HI269.out))) : g269 ≠ gb273)); have n6_ := Aside0.mk ((by rw [hg]; exact Nat.ne_of_gt (IsS59.lt (show IsS59 w _ g269 t267 t272 from by repeat (first | (with_reducible first | exact HI269.out | apply IsS59.alloc | apply IsS59.drewN | apply IsS59.drew | apply IsS59.set_1) | exact HI269.out))) : gb273 ≠ g269)); clear HI269; clear HB; have HI269 := n0_; have HB := n1_; have BK273 := n2_; have GW273 := n3_; have GE273 := n4_; have NB269_273 := n5_; have NB273_269 := n6_; clear n0_ n1_ n2_ n3_ n4_ n5_ n6_; clear hb hbox hg; have hnb112 := NB273_269.out; have hnc112 := NB269_273.out; have hcz113_0 : w111.cell? ⟨gb273, 0, none⟩ = some (.int .i64 0) := (blk_cell BK273.out 0).trans rfl; have hcz113_1 : w111.cell? ⟨gb273, 1, none⟩ = some (.string (⟨#[]⟩ : ByteArray)) := (blk_cell BK273.out 1).trans rfl; have hfz113_0 := blk_frozen BK273.out 0; have hfz113_1 := blk_frozen BK273.out 1) | ((with_reducible refine gate_callee (f := 19) rfl ?_); refine goesL_ (some 25) rfl rfl Try.func19 (by kernel_rfl) rfl #[.int .i64 t270, .string t271] rfl (by (try simp only [List.map_toArray, List.map_cons, List.map_nil]); first | done | rfl | (simp only [List.length_drop, List.length_take]; rfl)) ?_; (with_reducible refine (primitive_Make.calls k t270 t271 t274 _ A7.out).mono ?_); rintro e w114 ⟨rfl, hb⟩; refine ⟨_, rfl, ?_⟩; have n0_ := Aside0.mk (IsS59.below (show IsS59 w ((w111.setCell ⟨gb273, 0, none⟩ (.int .i64 t270)).setCell ⟨gb273, 1, none⟩ (.string t271)) g269 t267 t272 from by repeat (first | (with_reducible first | exact HI269.out | apply IsS59.alloc | apply IsS59.drewN | apply IsS59.drew | apply IsS59.set_1 | refine IsS59.far ?_ NB269_273.out _) | exact HI269.out)) hb); have n1_ := Aside0.mk (blk_below (g := gb273) (o := .cells #[.int .i64 t270, .string t271] 29 (0, 0)) (by (with_reducible repeat (first | refine blk_drewN ?_ _ | refine blk_drew ?_ | refine blk_alloc ?_ _)); refine blk_put (cs := #[.int .i64 t270, .string (⟨#[]⟩ : ByteArray)]) ?_ 1 _ rfl; (with_reducible repeat (first | refine blk_drewN ?_ _ | refine blk_drew ?_ | refine blk_alloc ?_ _)); refine blk_put (cs := #[.int .i64 0, .string (⟨#[]⟩ : ByteArray)]) ?_ 0 _ rfl; (with_reducible repeat (first | refine blk_drewN ?_ _ | refine blk_drew ?_ | refine blk_alloc ?_ _)); exact BK273.out) hb); have n2_ := Aside0.mk (below_step (by repeat (first | (with_reducible first | exact HB.out | apply below_alloc | apply pw_below_drewN | apply below_drew1 | refine below_set ?_ (IsS59.ge HI269.out) | refine below_set ?_ GE273.out) | exact HB.out)) hb); clear HI269; clear BK273; clear HB; have HI269 := n0_; have BK273 := n1_; have HB := n2_; clear n0_ n1_ n2_; (try clear hb); (try clear hb2); (try clear hk); (try clear hi)) | ((with_reducible refine gate_callee (f := 20) rfl ?_); refine goesL_ (some 30) rfl rfl Try.func20 (by kernel_rfl) rfl #[.int .i64 a1, .int .i64 8] rfl (by (try simp only [List.map_toArray, List.map_cons, List.map_nil]); first | done | rfl | (simp only [List.length_drop, List.length_take]; rfl)) ?_; (with_reducible refine (keyeventkit_Mod.calls a1 8 t276 _ A17.out).mono ?_); rintro e w' ⟨rfl, ⟨nd, rfl⟩⟩; refine ⟨_, rfl, ?_⟩) | ((with_reducible refine gate_callee (f := 21) rfl ?_); refine goesL_ (some 35) rfl rfl Try.func21 (by kernel_rfl) rfl #[.int .i64 (wrap64 (1 + t276)), .string t274] rfl (by (try simp only [List.map_toArray, List.map_cons, List.map_nil]); first | done | rfl | (simp only [List.length_drop, List.length_take]; rfl)) ?_; (with_reducible refine (primitive_Open.calls k (wrap64 (1 + t276)) t274 t277 t278 _ A18.out).mono ?_); rintro e w115 ⟨rfl, hb⟩; refine ⟨_, rfl, ?_⟩; have n0_ := Aside0.mk (IsS59.below (by repeat (first | (with_reducible first | exact HI269.out | apply IsS59.alloc | apply IsS59.drewN | apply IsS59.drew | apply IsS59.set_1 | refine IsS59.far ?_ NB269_273.out _) | exact HI269.out)) hb); have n1_ := Aside0.mk (blk_below (g := gb273) (o := .cells #[.int .i64 t270, .string t271] 29 (0, 0)) (by (with_reducible repeat (first | refine blk_drewN ?_ _ | refine blk_drew ?_ | refine blk_alloc ?_ _)); exact BK273.out) hb); have n2_ := Aside0.mk (below_step (by repeat (first | (with_reducible first | exact HB.out | apply below_alloc | apply pw_below_drewN | apply below_drew1 | refine below_set ?_ (IsS59.ge HI269.out) | refine below_set ?_ GE273.out) | exact HB.out)) hb); clear HI269; clear BK273; clear HB; have HI269 := n0_; have BK273 := n1_; have HB := n2_; clear n0_ n1_ n2_; (try clear hb); (try clear hb2); (try clear hk); (try clear hi); have hcz116_0 : w115.cell? ⟨gb273, 0, none⟩ = some (.int .i64 t270) := (blk_cell BK273.out 0).trans rfl; have hcz116_1 : w115.cell? ⟨gb273, 1, none⟩ = some (.string t271) := (blk_cell BK273.out 1).trans rfl; have hfz116_0 := blk_frozen BK273.out 0; have hfz116_1 := blk_frozen BK273.out 1) | ((with_reducible refine gate_callee (f := 21) rfl ?_); refine goesL_ (some 43) rfl rfl Try.func21 (by kernel_rfl) rfl #[.int .i64 t270, .string (t274 ++ (⟨#[65]⟩ : ByteArray))] rfl (by (try simp only [List.map_toArray, List.map_cons, List.map_nil]); first | done | rfl | (simp only [List.length_drop, List.length_take]; rfl)) ?_; (with_reducible refine (primitive_Open.calls k t270 (t274 ++ (⟨#[65]⟩ : ByteArray)) t279 t280 _ A20.out).mono ?_); rintro e w117 ⟨rfl, hb⟩; refine ⟨_, rfl, ?_⟩; have n0_ := Aside0.mk (IsS59.below (by repeat (first | (with_reducible first | exact HI269.out | apply IsS59.alloc | apply IsS59.drewN | apply IsS59.drew | apply IsS59.set_1 | refine IsS59.far ?_ NB269_273.out _) | exact HI269.out)) hb); have n1_ := Aside0.mk (blk_below (g := gb273) (o := .cells #[.int .i64 t270, .string t271] 29 (0, 0)) (by (with_reducible repeat (first | refine blk_drewN ?_ _ | refine blk_drew ?_ | refine blk_alloc ?_ _)); exact BK273.out) hb); have n2_ := Aside0.mk (below_step (by repeat (first | (with_reducible first | exact HB.out | apply below_alloc | apply pw_below_drewN | apply below_drew1 | refine below_set ?_ (IsS59.ge HI269.out) | refine below_set ?_ GE273.out) | exact HB.out)) hb); clear HI269; clear BK273; clear HB; have HI269 := n0_; have BK273 := n1_; have HB := n2_; clear n0_ n1_ n2_; (try clear hb); (try clear hb2); (try clear hk); (try clear hi)))
                    have n0_ := Aside0.mk (blk_drew BK273.out)
                    have n1_ := Aside0.mk (IsS59.drew HI269.out)
                    have n2_ := Aside0.mk (below_drew1 HB.out)
                    clear BK273
                    clear HI269
                    clear HB
                    have BK273 := n0_
                    have HI269 := n1_
                    have HB := n2_
                    clear n0_ n1_ n2_
                    refine start_ (n := 13) (S := fun w' => w'.cell? ⟨gb273, 0, none⟩ = some (.int .i64 t270) ∧ w'.cell? ⟨gb273, 1, none⟩ = some (.string t271)) (ds := []) #[false, false, false, false, false, false, false, false, false, false, false, false, false] (by kernel_rfl) rfl rfl ⟨(blk_cell BK273.out 0).trans rfl, (blk_cell BK273.out 1).trans rfl⟩ (fun hHeld => ?_); refine with_tabW keyeventlaw03_PrimitiveOpens.tab10 keyeventlaw03_PrimitiveOpens.bits10 (fun HT_ HW_ => ?_)
                    generalize w117.drew = w118 at BK273 HI269 HB hHeld ⊢
                    refine pure_ (i := 0) (N := some 47) (v := ?_) (a' := ?_) #[true, false, false, false, false, false, false, false, false, false, false, false, false] rfl rfl (any_of HT_.out (by kernel_rfl)) (fun _ _ _ h => h) (Or.inl ⟨by rfl, ?_⟩) ?_ ?_
                    rotate_left
                    · intro w'
                      go_simp
                      with_reducible rfl
                    rotate_left
                    · simp only [Act.put, List.setIfInBounds_toArray, List.set_cons_zero, List.set_cons_succ, i64_w, i32_w]
                      rfl
                    refine pure_ (i := 2) (N := some 49) (v := ?_) (a' := ?_) #[true, false, true, false, false, false, false, false, false, false, false, false, false] rfl rfl (any_of HT_.out (by kernel_rfl)) (fun _ _ _ h => h) (Or.inl ⟨by rfl, ?_⟩) ?_ ?_
                    rotate_left
                    · intro w'
                      go_simp
                      with_reducible rfl
                    rotate_left
                    · simp only [Act.put, List.setIfInBounds_toArray, List.set_cons_zero, List.set_cons_succ, i64_w, i32_w]
                      rfl
                    refine pure_ (i := 3) (N := some 50) (v := ?_) (a' := ?_) #[true, false, true, true, false, false, false, false, false, false, false, false, false] rfl rfl (any_of HT_.out (by kernel_rfl)) (fun _ _ _ h => h) (Or.inl ⟨by rfl, ?_⟩) ?_ ?_
                    rotate_left
                    · intro w'
                      go_simp
                      with_reducible rfl
                    rotate_left
                    · simp only [Act.put, List.setIfInBounds_toArray, List.set_cons_zero, List.set_cons_succ, i64_w, i32_w]
                      rfl
                    refine pure_ (i := 4) (N := some 51) (v := ?_) (a' := ?_) #[true, false, true, true, true, false, false, false, false, false, false, false, false] rfl rfl (any_of HT_.out (by kernel_rfl)) (fun _ _ _ h => h) (Or.inl ⟨by rfl, ?_⟩) ?_ ?_
                    rotate_left
                    · intro w'
                      go_simp
                      with_reducible rfl
                    rotate_left
                    · simp only [Act.put, List.setIfInBounds_toArray, List.set_cons_zero, List.set_cons_succ, i64_w, i32_w]
                      rfl
                    refine pure_ (i := 5) (N := some 52) (v := ?_) (a' := ?_) #[true, false, true, true, true, true, false, false, false, false, false, false, false] rfl rfl (any_of HT_.out (by kernel_rfl)) (fun _ _ _ h => h) (Or.inl ⟨by rfl, ?_⟩) ?_ ?_
                    rotate_left
                    · intro w'
                      go_simp
                      with_reducible rfl
                    rotate_left
                    · simp only [Act.put, List.setIfInBounds_toArray, List.set_cons_zero, List.set_cons_succ, i64_w, i32_w]
                      rfl
                    refine pure_ (i := 6) (N := some 53) (v := ?_) (a' := ?_) #[true, false, true, true, true, true, true, false, false, false, false, false, false] rfl rfl (any_of HT_.out (by kernel_rfl)) (fun _ _ _ h => h) (Or.inl ⟨by rfl, ?_⟩) ?_ ?_
                    rotate_left
                    · intro w'
                      go_simp
                      with_reducible rfl
                    rotate_left
                    · simp only [Act.put, List.setIfInBounds_toArray, List.set_cons_zero, List.set_cons_succ, i64_w, i32_w]
                      rfl
                    refine take_ (i := 1) (N := some 48) (v := ?_) (a' := ?_) #[true, true, true, true, true, true, true, false, false, false, false, false, false] rfl rfl (take_ofW HT_.out HW_.out (by kernel_rfl)) (fun _ _ _ h => h) (Or.inl ⟨by rfl, ?_⟩) hHeld ?_ ?_
                    rotate_left
                    · rintro w' ⟨s0, s1⟩
                      go_simp
                      with_reducible rfl
                    rotate_left
                    · simp only [Act.put, List.setIfInBounds_toArray, List.set_cons_zero, List.set_cons_succ, i64_w, i32_w]
                      rfl
                    refine one_ (i := 7) (N := some 54) #[true, true, true, true, true, true, true, true, false, false, false, false, false] rfl rfl (one_of HT_.out (by kernel_rfl)) (by decide) (fun K hK => ?_)
                    refine goes_ Try.func21 (by kernel_rfl) rfl #[.int .i64 t270, .string (t274.extract 0 ((ji21) : Int).toNat)] (by rfl) rfl rfl (by (try simp only [List.map_toArray, List.map_cons, List.map_nil]); first | done | (simp only [hji21]; rfl) | rfl | (simp only [List.length_drop, List.length_take]; rfl)) ?_
                    with_reducible refine (primitive_Open.calls k t270 (t274.extract 0 ((ji21) : Int).toNat) t281 t282 _ A24.out).mono ?_
                    rintro e w119 ⟨rfl, hb⟩
                    refine ⟨_, rfl, ?_⟩
                    have n0_ := Aside0.mk (IsS59.below (by repeat (first | (with_reducible first | exact HI269.out | apply IsS59.alloc | apply IsS59.drewN | apply IsS59.drew | apply IsS59.set_1 | refine IsS59.far ?_ NB269_273.out _) | exact HI269.out)) hb)
                    have n1_ := Aside0.mk (blk_below (g := gb273) (o := .cells #[.int .i64 t270, .string t271] 29 (0, 0)) (by (with_reducible repeat (first | refine blk_drewN ?_ _ | refine blk_drew ?_ | refine blk_alloc ?_ _)); exact BK273.out) hb)
                    have n2_ := Aside0.mk (below_step (by repeat (first | (with_reducible first | exact HB.out | apply below_alloc | apply pw_below_drewN | apply below_drew1 | refine below_set ?_ (IsS59.ge HI269.out) | refine below_set ?_ GE273.out) | exact HB.out)) hb)
                    clear HI269
                    clear BK273
                    clear HB
                    have HI269 := n0_
                    have BK273 := n1_
                    have HB := n2_
                    clear n0_ n1_ n2_
                    (try clear hb)
                    (try clear hb2)
                    (try clear hk)
                    (try clear hi)
                    refine hK.out _ _ ⟨(blk_cell BK273.out 0).trans rfl, (blk_cell BK273.out 1).trans rfl⟩ (fun hHeld => ?_)
                    clear hK K
                    refine norm_ (a' := ?_) ?_ ?_
                    rotate_left
                    · show Act.put _ (some 54) _ = _
                      simp only [Act.put, List.setIfInBounds_toArray, List.set_cons_zero, List.set_cons_succ, i64_w, i32_w]
                      rfl
                    refine pure_ (i := 8) (N := some 46) (v := ?_) (a' := ?_) #[true, true, true, true, true, true, true, true, true, false, false, false, false] rfl rfl (any_of HT_.out (by kernel_rfl)) (fun _ _ _ h => h) (Or.inl ⟨by rfl, ?_⟩) ?_ ?_
                    rotate_left
                    · intro w'
                      go_simp
                      with_reducible rfl
                    rotate_left
                    · simp only [Act.put, List.setIfInBounds_toArray, List.set_cons_zero, List.set_cons_succ, i64_w, i32_w]
                      rfl
                    refine pure_ (i := 9) (N := some 55) (v := ?_) (a' := ?_) #[true, true, true, true, true, true, true, true, true, true, false, false, false] rfl rfl (any_of HT_.out (by kernel_rfl)) (fun _ _ _ h => h) (Or.inl ⟨by rfl, ?_⟩) ?_ ?_
                    rotate_left
                    · intro w'
                      go_simp
                      with_reducible rfl
                    rotate_left
                    · simp only [Act.put, List.setIfInBounds_toArray, List.set_cons_zero, List.set_cons_succ, i64_w, i32_w]
                      rfl
                    refine pure_ (i := 10) (N := some 56) (v := ?_) (a' := ?_) #[true, true, true, true, true, true, true, true, true, true, true, false, false] rfl rfl (any_of HT_.out (by kernel_rfl)) (fun _ _ _ h => h) (Or.inl ⟨by rfl, ?_⟩) ?_ ?_
                    rotate_left
                    · intro w'
                      go_simp
                      with_reducible rfl
                    rotate_left
                    · simp only [Act.put, List.setIfInBounds_toArray, List.set_cons_zero, List.set_cons_succ, i64_w, i32_w]
                      rfl
                    refine pure_ (i := 11) (N := some 12) (v := ?_) (a' := ?_) #[true, true, true, true, true, true, true, true, true, true, true, true, false] rfl rfl (any_of HT_.out (by kernel_rfl)) (fun _ _ _ h => h) (Or.inl ⟨by rfl, ?_⟩) ?_ ?_
                    rotate_left
                    · intro w'
                      go_simp
                      with_reducible rfl
                    rotate_left
                    · simp only [Act.put, List.setIfInBounds_toArray, List.set_cons_zero, List.set_cons_succ, i64_w, i32_w]
                      rfl
                    refine pure_ (i := 12) (N := some 13) (v := ?_) (a' := ?_) #[true, true, true, true, true, true, true, true, true, true, true, true, true] rfl rfl (any_of HT_.out (by kernel_rfl)) (fun _ _ _ h => h) (Or.inl ⟨by rfl, ?_⟩) ?_ ?_
                    rotate_left
                    · intro w'
                      go_simp
                      with_reducible rfl
                    rotate_left
                    · simp only [Act.put, List.setIfInBounds_toArray, List.set_cons_zero, List.set_cons_succ, i64_w, i32_w]
                      rfl
                    refine done_ (done_of HT_.out (by kernel_rfl)) ?_
                    have hcz120_0 : w119.cell? ⟨gb273, 0, none⟩ = some (.int .i64 t270) := (blk_cell BK273.out 0).trans rfl
                    have hcz120_1 : w119.cell? ⟨gb273, 1, none⟩ = some (.string t271) := (blk_cell BK273.out 1).trans rfl
                    have hfz120_0 := blk_frozen BK273.out 0
                    have hfz120_1 := blk_frozen BK273.out 1
                    try go_wp2
                    go_ret
                    exact ⟨by first | rfl | (simp [errW_none, errW_some] <;> rfl) | (simp only [← hji21]; first | rfl | (simp [errW_none, errW_some] <;> rfl)) | (simp [*, errW_none, errW_some] <;> rfl), by repeat (first | (with_reducible first | exact HB.out | apply below_alloc | apply pw_below_drewN | apply below_drew1 | refine below_set ?_ (IsS59.ge HI269.out) | refine below_set ?_ GE273.out) | exact HB.out)⟩
                · rw [if_neg c80] at H
                  have c80b0 : (t278 == 7) = false := beq_eq_false_iff_ne.mpr c80
                  have c80b1 : (t278 != 7) = true := bne_iff_ne.mpr c80
                  obtain rfl := Option.some.inj H
                  go_enter Try.func6, Try.ntmps6
                  try go_wp2_with (first | ((with_reducible refine gate_callee (f := 8) rfl ?_); refine goesL_ (some 15) rfl rfl Try.func8 (by kernel_rfl) rfl #[.slice A0 l0.length c0] rfl (by (try simp only [List.map_toArray, List.map_cons, List.map_nil]); first | done | rfl | (simp only [List.length_drop, List.length_take]; rfl)) ?_; (with_reducible refine (keyeventkit_Light.calls _ _ l0 true _ ?side1 ?side2 A3.out).mono ?_); (case side1 => repeat (first | exact HR0.out | (with_reducible refine Kd.C_alloc ?_ _) | (with_reducible refine Kd.C_drewN ?_ _) | (with_reducible refine Kd.C_drew ?_))); (case side2 => exact HC0.out); rintro e w' ⟨rfl, ⟨nd, rfl⟩⟩; refine ⟨_, rfl, ?_⟩) | ((with_reducible refine gate_callee (f := 12) rfl ?_); refine goesL_ (some 19) rfl rfl Try.func12 (by kernel_rfl) rfl #[.slice A0 l0.length c0] rfl (by (try simp only [List.map_toArray, List.map_cons, List.map_nil]); first | done | rfl | (simp only [List.length_drop, List.length_take]; rfl)) ?_; (with_reducible refine (keyeventkit_Roll.calls _ _ l0 t267 t268 w _ ?side1 ?side2 ?side3 A5.out).mono ?_); (case side1 => repeat (first | (with_reducible first | exact HB.out | apply below_alloc | apply pw_below_drewN | apply below_drew1) | exact HB.out)); (case side2 => exact HR0.out); (case side3 => exact HC0.out); rintro e w121 ⟨g269, rfl, hi, hb, hb2⟩; refine ⟨_, rfl, ?_⟩; have n0_ := Aside0.mk (hb); have n1_ := Aside0.mk (hi); clear HB; have HB := n0_; have HI269 := n1_; clear n0_ n1_; (try clear hb); (try clear hb2); (try clear hk); (try clear hi)) | ((with_reducible refine gate_callee (f := 11) rfl ?_); refine goesL_ (some 20) rfl rfl Try.func11 (by kernel_rfl) rfl #[.pointer (some ⟨g269, 0, none⟩)] rfl (by (try simp only [List.map_toArray, List.map_cons, List.map_nil]); first | done | rfl | (simp only [List.length_drop, List.length_take]; rfl)) ?_; (with_reducible refine (keyeventkit_Primitive.calls k g269 t267 t268 t270 t271 t272 w _ ?side1 ?side2 A6.out).mono ?_); (case side1 => repeat (first | (with_reducible first | exact HI269.out | apply IsS59.alloc | apply IsS59.drewN | apply IsS59.drew | apply IsS59.set_1) | exact HI269.out)); (case side2 => repeat (first | (with_reducible first | exact HB.out | apply below_alloc | apply pw_below_drewN | apply below_drew1 | refine below_set ?_ (IsS59.ge HI269.out)) | exact HB.out)); rintro e w122 ⟨rfl, hi, hb, hk⟩; refine ⟨_, rfl, ?_⟩; have n0_ := Aside0.mk (hb); have n1_ := Aside0.mk (hi); clear HB; clear HI269; have HB := n0_; have HI269 := n1_; clear n0_ n1_; (try clear hb); (try clear hb2); (try clear hk); (try clear hi)) | ((with_reducible refine gate_dst (N := 5) rfl ?_); refine box_event ?hg (N := 5) ?hd (cs := #[.int .i64 0, .string (⟨#[]⟩ : ByteArray)]) (t := 29) ?hr ?_; (case hd => rfl); (case hg => rfl); (case hr => first | (go_simp; done) | (go_simp; rfl)); intro gb273 hg w123 hbox hb; have n0_ := Aside0.mk (IsS59.below (by repeat (first | (with_reducible first | exact HI269.out | apply IsS59.alloc | apply IsS59.drewN | apply IsS59.drew | apply IsS59.set_1) | exact HI269.out)) hb); have n1_ := Aside0.mk (below_step (by repeat (first | (with_reducible first | exact HB.out | apply below_alloc | apply pw_below_drewN | apply below_drew1 | refine below_set ?_ (IsS59.ge HI269.out)) | exact HB.out)) hb); have n2_ := Aside0.mk (hbox); have n3_ := Aside0.mk ((by rw [hg]; exact (below_size (by repeat (first | (with_reducible first | exact HB.out | apply below_alloc | apply pw_below_drewN | apply below_drew1 | refine below_set ?_ (IsS59.ge HI269.out)) | exact HB.out))) : w.heap.size ≤ gb273)); have n4_ := Aside0.mk ((by rw [hg]; exact (below_size (by repeat (first | (with_reducible first | exact HB.out | apply below_alloc | apply pw_below_drewN | apply below_drew1 | refine below_set ?_ (IsS59.ge HI269.out)) | exact HB.out))) : w.heap.size ≤ gb273)); have n5_ := Aside0.mk ((by rw [hg]; exact Nat.ne_of_lt (IsS59.lt (show IsS59 w _ g269 t267 t272 from by repeat (first | (with_reducible first | exact HI269.out | apply IsS59.alloc | apply IsS59.drewN | apply IsS59.drew | apply IsS59.set_1) | exact HI269.out))) : g269 ≠ gb273)); have n6_ := Aside0.mk ((by rw [hg]; exact Nat.ne_of_gt (IsS59.lt (show IsS59 w _ g269 t267 t272 from by repeat (first | (with_reducible first | exact HI269.out | apply IsS59.alloc | apply IsS59.drewN | apply IsS59.drew | apply IsS59.set_1) | exact HI269.out))) : gb273 ≠ g269)); clear HI269; clear HB; have HI269 := n0_; have HB := n1_; have BK273 := n2_; have GW273 := n3_; have GE273 := n4_; have NB269_273 := n5_; have NB273_269 := n6_; clear n0_ n1_ n2_ n3_ n4_ n5_ n6_; clear hb hbox hg; have hnb124 := NB273_269.out; have hnc124 := NB269_273.out; have hcz125_0 : w123.cell? ⟨gb273, 0, none⟩ = some (.int .i64 0) := (blk_cell BK273.out 0).trans rfl; have hcz125_1 : w123.cell? ⟨gb273, 1, none⟩ = some (.string (⟨#[]⟩ : ByteArray)) := (blk_cell BK273.out 1).trans rfl; have hfz125_0 := blk_frozen BK273.out 0; have hfz125_1 := blk_frozen BK273.out 1) | ((with_reducible refine gate_callee (f := 19) rfl ?_); refine goesL_ (some 25) rfl rfl Try.func19 (by kernel_rfl) rfl #[.int .i64 t270, .string t271] rfl (by (try simp only [List.map_toArray, List.map_cons, List.map_nil]); first | done | rfl | (simp only [List.length_drop, List.length_take]; rfl)) ?_; (with_reducible refine (primitive_Make.calls k t270 t271 t274 _ A7.out).mono ?_); rintro e w126 ⟨rfl, hb⟩; refine ⟨_, rfl, ?_⟩; have n0_ := Aside0.mk (IsS59.below (show IsS59 w ((w123.setCell ⟨gb273, 0, none⟩ (.int .i64 t270)).setCell ⟨gb273, 1, none⟩ (.string t271)) g269 t267 t272 from by repeat (first | (with_reducible first | exact HI269.out | apply IsS59.alloc | apply IsS59.drewN | apply IsS59.drew | apply IsS59.set_1 | refine IsS59.far ?_ NB269_273.out _) | exact HI269.out)) hb); have n1_ := Aside0.mk (blk_below (g := gb273) (o := .cells #[.int .i64 t270, .string t271] 29 (0, 0)) (by (with_reducible repeat (first | refine blk_drewN ?_ _ | refine blk_drew ?_ | refine blk_alloc ?_ _)); refine blk_put (cs := #[.int .i64 t270, .string (⟨#[]⟩ : ByteArray)]) ?_ 1 _ rfl; (with_reducible repeat (first | refine blk_drewN ?_ _ | refine blk_drew ?_ | refine blk_alloc ?_ _)); refine blk_put (cs := #[.int .i64 0, .string (⟨#[]⟩ : ByteArray)]) ?_ 0 _ rfl; (with_reducible repeat (first | refine blk_drewN ?_ _ | refine blk_drew ?_ | refine blk_alloc ?_ _)); exact BK273.out) hb); have n2_ := Aside0.mk (below_step (by repeat (first | (with_reducible first | exact HB.out | apply below_alloc | apply pw_below_drewN | apply below_drew1 | refine below_set ?_ (IsS59.ge HI269.out) | refine below_set ?_ GE273.out) | exact HB.out)) hb); clear HI269; clear BK273; clear HB; have HI269 := n0_; have BK273 := n1_; have HB := n2_; clear n0_ n1_ n2_; (try clear hb); (try clear hb2); (try clear hk); (try clear hi)) | ((with_reducible refine gate_callee (f := 20) rfl ?_); refine goesL_ (some 30) rfl rfl Try.func20 (by kernel_rfl) rfl #[.int .i64 a1, .int .i64 8] rfl (by (try simp only [List.map_toArray, List.map_cons, List.map_nil]); first | done | rfl | (simp only [List.length_drop, List.length_take]; rfl)) ?_; (with_reducible refine (keyeventkit_Mod.calls a1 8 t276 _ A17.out).mono ?_); rintro e w' ⟨rfl, ⟨nd, rfl⟩⟩; refine ⟨_, rfl, ?_⟩) | ((with_reducible refine gate_callee (f := 21) rfl ?_); refine goesL_ (some 35) rfl rfl Try.func21 (by kernel_rfl) rfl #[.int .i64 (wrap64 (1 + t276)), .string t274] rfl (by (try simp only [List.map_toArray, List.map_cons, List.map_nil]); first | done | rfl | (simp only [List.length_drop, List.length_take]; rfl)) ?_; (with_reducible refine (primitive_Open.calls k (wrap64 (1 + t276)) t274 t277 t278 _ A18.out).mono ?_); rintro e w127 ⟨rfl, hb⟩; refine ⟨_, rfl, ?_⟩; have n0_ := Aside0.mk (IsS59.below (by repeat (first | (with_reducible first | exact HI269.out | apply IsS59.alloc | apply IsS59.drewN | apply IsS59.drew | apply IsS59.set_1 | refine IsS59.far ?_ NB269_273.out _) | exact HI269.out)) hb); have n1_ := Aside0.mk (blk_below (g := gb273) (o := .cells #[.int .i64 t270, .string t271] 29 (0, 0)) (by (with_reducible repeat (first | refine blk_drewN ?_ _ | refine blk_drew ?_ | refine blk_alloc ?_ _)); exact BK273.out) hb); have n2_ := Aside0.mk (below_step (by repeat (first | (with_reducible first | exact HB.out | apply below_alloc | apply pw_below_drewN | apply below_drew1 | refine below_set ?_ (IsS59.ge HI269.out) | refine below_set ?_ GE273.out) | exact HB.out)) hb); clear HI269; clear BK273; clear HB; have HI269 := n0_; have BK273 := n1_; have HB := n2_; clear n0_ n1_ n2_; (try clear hb); (try clear hb2); (try clear hk); (try clear hi); have hcz128_0 : w127.cell? ⟨gb273, 0, none⟩ = some (.int .i64 t270) := (blk_cell BK273.out 0).trans rfl; have hcz128_1 : w127.cell? ⟨gb273, 1, none⟩ = some (.string t271) := (blk_cell BK273.out 1).trans rfl; have hfz128_0 := blk_frozen BK273.out 0; have hfz128_1 := blk_frozen BK273.out 1) | ((with_reducible refine gate_callee (f := 21) rfl ?_); refine goesL_ (some 43) rfl rfl Try.func21 (by kernel_rfl) rfl #[.int .i64 t270, .string (t274 ++ (⟨#[65]⟩ : ByteArray))] rfl (by (try simp only [List.map_toArray, List.map_cons, List.map_nil]); first | done | rfl | (simp only [List.length_drop, List.length_take]; rfl)) ?_; (with_reducible refine (primitive_Open.calls k t270 (t274 ++ (⟨#[65]⟩ : ByteArray)) t279 t280 _ A20.out).mono ?_); rintro e w129 ⟨rfl, hb⟩; refine ⟨_, rfl, ?_⟩; have n0_ := Aside0.mk (IsS59.below (by repeat (first | (with_reducible first | exact HI269.out | apply IsS59.alloc | apply IsS59.drewN | apply IsS59.drew | apply IsS59.set_1 | refine IsS59.far ?_ NB269_273.out _) | exact HI269.out)) hb); have n1_ := Aside0.mk (blk_below (g := gb273) (o := .cells #[.int .i64 t270, .string t271] 29 (0, 0)) (by (with_reducible repeat (first | refine blk_drewN ?_ _ | refine blk_drew ?_ | refine blk_alloc ?_ _)); exact BK273.out) hb); have n2_ := Aside0.mk (below_step (by repeat (first | (with_reducible first | exact HB.out | apply below_alloc | apply pw_below_drewN | apply below_drew1 | refine below_set ?_ (IsS59.ge HI269.out) | refine below_set ?_ GE273.out) | exact HB.out)) hb); clear HI269; clear BK273; clear HB; have HI269 := n0_; have BK273 := n1_; have HB := n2_; clear n0_ n1_ n2_; (try clear hb); (try clear hb2); (try clear hk); (try clear hi)))
                  have n0_ := Aside0.mk (blk_drew BK273.out)
                  have n1_ := Aside0.mk (IsS59.drew HI269.out)
                  have n2_ := Aside0.mk (below_drew1 HB.out)
                  clear BK273
                  clear HI269
                  clear HB
                  have BK273 := n0_
                  have HI269 := n1_
                  have HB := n2_
                  clear n0_ n1_ n2_
                  refine start_ (n := 13) (S := fun w' => w'.cell? ⟨gb273, 0, none⟩ = some (.int .i64 t270) ∧ w'.cell? ⟨gb273, 1, none⟩ = some (.string t271)) (ds := []) #[false, false, false, false, false, false, false, false, false, false, false, false, false] (by kernel_rfl) rfl rfl ⟨(blk_cell BK273.out 0).trans rfl, (blk_cell BK273.out 1).trans rfl⟩ (fun hHeld => ?_); refine with_tabW keyeventlaw03_PrimitiveOpens.tab10 keyeventlaw03_PrimitiveOpens.bits10 (fun HT_ HW_ => ?_)
                  generalize w129.drew = w130 at BK273 HI269 HB hHeld ⊢
                  refine pure_ (i := 0) (N := some 47) (v := ?_) (a' := ?_) #[true, false, false, false, false, false, false, false, false, false, false, false, false] rfl rfl (any_of HT_.out (by kernel_rfl)) (fun _ _ _ h => h) (Or.inl ⟨by rfl, ?_⟩) ?_ ?_
                  rotate_left
                  · intro w'
                    go_simp
                    with_reducible rfl
                  rotate_left
                  · simp only [Act.put, List.setIfInBounds_toArray, List.set_cons_zero, List.set_cons_succ, i64_w, i32_w]
                    rfl
                  refine pure_ (i := 2) (N := some 49) (v := ?_) (a' := ?_) #[true, false, true, false, false, false, false, false, false, false, false, false, false] rfl rfl (any_of HT_.out (by kernel_rfl)) (fun _ _ _ h => h) (Or.inl ⟨by rfl, ?_⟩) ?_ ?_
                  rotate_left
                  · intro w'
                    go_simp
                    with_reducible rfl
                  rotate_left
                  · simp only [Act.put, List.setIfInBounds_toArray, List.set_cons_zero, List.set_cons_succ, i64_w, i32_w]
                    rfl
                  refine pure_ (i := 3) (N := some 50) (v := ?_) (a' := ?_) #[true, false, true, true, false, false, false, false, false, false, false, false, false] rfl rfl (any_of HT_.out (by kernel_rfl)) (fun _ _ _ h => h) (Or.inl ⟨by rfl, ?_⟩) ?_ ?_
                  rotate_left
                  · intro w'
                    go_simp
                    with_reducible rfl
                  rotate_left
                  · simp only [Act.put, List.setIfInBounds_toArray, List.set_cons_zero, List.set_cons_succ, i64_w, i32_w]
                    rfl
                  refine pure_ (i := 4) (N := some 51) (v := ?_) (a' := ?_) #[true, false, true, true, true, false, false, false, false, false, false, false, false] rfl rfl (any_of HT_.out (by kernel_rfl)) (fun _ _ _ h => h) (Or.inl ⟨by rfl, ?_⟩) ?_ ?_
                  rotate_left
                  · intro w'
                    go_simp
                    with_reducible rfl
                  rotate_left
                  · simp only [Act.put, List.setIfInBounds_toArray, List.set_cons_zero, List.set_cons_succ, i64_w, i32_w]
                    rfl
                  refine pure_ (i := 5) (N := some 52) (v := ?_) (a' := ?_) #[true, false, true, true, true, true, false, false, false, false, false, false, false] rfl rfl (any_of HT_.out (by kernel_rfl)) (fun _ _ _ h => h) (Or.inl ⟨by rfl, ?_⟩) ?_ ?_
                  rotate_left
                  · intro w'
                    go_simp
                    with_reducible rfl
                  rotate_left
                  · simp only [Act.put, List.setIfInBounds_toArray, List.set_cons_zero, List.set_cons_succ, i64_w, i32_w]
                    rfl
                  refine pure_ (i := 6) (N := some 53) (v := ?_) (a' := ?_) #[true, false, true, true, true, true, true, false, false, false, false, false, false] rfl rfl (any_of HT_.out (by kernel_rfl)) (fun _ _ _ h => h) (Or.inl ⟨by rfl, ?_⟩) ?_ ?_
                  rotate_left
                  · intro w'
                    go_simp
                    with_reducible rfl
                  rotate_left
                  · simp only [Act.put, List.setIfInBounds_toArray, List.set_cons_zero, List.set_cons_succ, i64_w, i32_w]
                    rfl
                  refine take_ (i := 1) (N := some 48) (v := ?_) (a' := ?_) #[true, true, true, true, true, true, true, false, false, false, false, false, false] rfl rfl (take_ofW HT_.out HW_.out (by kernel_rfl)) (fun _ _ _ h => h) (Or.inl ⟨by rfl, ?_⟩) hHeld ?_ ?_
                  rotate_left
                  · rintro w' ⟨s0, s1⟩
                    go_simp
                    with_reducible rfl
                  rotate_left
                  · simp only [Act.put, List.setIfInBounds_toArray, List.set_cons_zero, List.set_cons_succ, i64_w, i32_w]
                    rfl
                  refine one_ (i := 7) (N := some 54) #[true, true, true, true, true, true, true, true, false, false, false, false, false] rfl rfl (one_of HT_.out (by kernel_rfl)) (by decide) (fun K hK => ?_)
                  refine goes_ Try.func21 (by kernel_rfl) rfl #[.int .i64 t270, .string (t274.extract 0 ((ji21) : Int).toNat)] (by rfl) rfl rfl (by (try simp only [List.map_toArray, List.map_cons, List.map_nil]); first | done | (simp only [hji21]; rfl) | rfl | (simp only [List.length_drop, List.length_take]; rfl)) ?_
                  with_reducible refine (primitive_Open.calls k t270 (t274.extract 0 ((ji21) : Int).toNat) t281 t282 _ A24.out).mono ?_
                  rintro e w131 ⟨rfl, hb⟩
                  refine ⟨_, rfl, ?_⟩
                  have n0_ := Aside0.mk (IsS59.below (by repeat (first | (with_reducible first | exact HI269.out | apply IsS59.alloc | apply IsS59.drewN | apply IsS59.drew | apply IsS59.set_1 | refine IsS59.far ?_ NB269_273.out _) | exact HI269.out)) hb)
                  have n1_ := Aside0.mk (blk_below (g := gb273) (o := .cells #[.int .i64 t270, .string t271] 29 (0, 0)) (by (with_reducible repeat (first | refine blk_drewN ?_ _ | refine blk_drew ?_ | refine blk_alloc ?_ _)); exact BK273.out) hb)
                  have n2_ := Aside0.mk (below_step (by repeat (first | (with_reducible first | exact HB.out | apply below_alloc | apply pw_below_drewN | apply below_drew1 | refine below_set ?_ (IsS59.ge HI269.out) | refine below_set ?_ GE273.out) | exact HB.out)) hb)
                  clear HI269
                  clear BK273
                  clear HB
                  have HI269 := n0_
                  have BK273 := n1_
                  have HB := n2_
                  clear n0_ n1_ n2_
                  (try clear hb)
                  (try clear hb2)
                  (try clear hk)
                  (try clear hi)
                  refine hK.out _ _ ⟨(blk_cell BK273.out 0).trans rfl, (blk_cell BK273.out 1).trans rfl⟩ (fun hHeld => ?_)
                  clear hK K
                  refine norm_ (a' := ?_) ?_ ?_
                  rotate_left
                  · show Act.put _ (some 54) _ = _
                    simp only [Act.put, List.setIfInBounds_toArray, List.set_cons_zero, List.set_cons_succ, i64_w, i32_w]
                    rfl
                  refine pure_ (i := 8) (N := some 46) (v := ?_) (a' := ?_) #[true, true, true, true, true, true, true, true, true, false, false, false, false] rfl rfl (any_of HT_.out (by kernel_rfl)) (fun _ _ _ h => h) (Or.inl ⟨by rfl, ?_⟩) ?_ ?_
                  rotate_left
                  · intro w'
                    go_simp
                    with_reducible rfl
                  rotate_left
                  · simp only [Act.put, List.setIfInBounds_toArray, List.set_cons_zero, List.set_cons_succ, i64_w, i32_w]
                    rfl
                  refine pure_ (i := 9) (N := some 55) (v := ?_) (a' := ?_) #[true, true, true, true, true, true, true, true, true, true, false, false, false] rfl rfl (any_of HT_.out (by kernel_rfl)) (fun _ _ _ h => h) (Or.inl ⟨by rfl, ?_⟩) ?_ ?_
                  rotate_left
                  · intro w'
                    go_simp
                    with_reducible rfl
                  rotate_left
                  · simp only [Act.put, List.setIfInBounds_toArray, List.set_cons_zero, List.set_cons_succ, i64_w, i32_w]
                    rfl
                  refine pure_ (i := 10) (N := some 56) (v := ?_) (a' := ?_) #[true, true, true, true, true, true, true, true, true, true, true, false, false] rfl rfl (any_of HT_.out (by kernel_rfl)) (fun _ _ _ h => h) (Or.inl ⟨by rfl, ?_⟩) ?_ ?_
                  rotate_left
                  · intro w'
                    go_simp
                    with_reducible rfl
                  rotate_left
                  · simp only [Act.put, List.setIfInBounds_toArray, List.set_cons_zero, List.set_cons_succ, i64_w, i32_w]
                    rfl
                  refine pure_ (i := 11) (N := some 12) (v := ?_) (a' := ?_) #[true, true, true, true, true, true, true, true, true, true, true, true, false] rfl rfl (any_of HT_.out (by kernel_rfl)) (fun _ _ _ h => h) (Or.inl ⟨by rfl, ?_⟩) ?_ ?_
                  rotate_left
                  · intro w'
                    go_simp
                    with_reducible rfl
                  rotate_left
                  · simp only [Act.put, List.setIfInBounds_toArray, List.set_cons_zero, List.set_cons_succ, i64_w, i32_w]
                    rfl
                  refine pure_ (i := 12) (N := some 13) (v := ?_) (a' := ?_) #[true, true, true, true, true, true, true, true, true, true, true, true, true] rfl rfl (any_of HT_.out (by kernel_rfl)) (fun _ _ _ h => h) (Or.inl ⟨by rfl, ?_⟩) ?_ ?_
                  rotate_left
                  · intro w'
                    go_simp
                    with_reducible rfl
                  rotate_left
                  · simp only [Act.put, List.setIfInBounds_toArray, List.set_cons_zero, List.set_cons_succ, i64_w, i32_w]
                    rfl
                  refine done_ (done_of HT_.out (by kernel_rfl)) ?_
                  have hcz132_0 : w131.cell? ⟨gb273, 0, none⟩ = some (.int .i64 t270) := (blk_cell BK273.out 0).trans rfl
                  have hcz132_1 : w131.cell? ⟨gb273, 1, none⟩ = some (.string t271) := (blk_cell BK273.out 1).trans rfl
                  have hfz132_0 := blk_frozen BK273.out 0
                  have hfz132_1 := blk_frozen BK273.out 1
                  try go_wp2
                  go_ret
                  exact ⟨by first | rfl | (simp [errW_none, errW_some] <;> rfl) | (simp only [← hji21]; first | rfl | (simp [errW_none, errW_some] <;> rfl)) | (simp [*, errW_none, errW_some] <;> rfl), by repeat (first | (with_reducible first | exact HB.out | apply below_alloc | apply pw_below_drewN | apply below_drew1 | refine below_set ?_ (IsS59.ge HI269.out) | refine below_set ?_ GE273.out) | exact HB.out)⟩
            · rw [if_neg c25] at H
              have c25b0 : ((t278 == 0) == ((wrap64 (1 + t276)) == t270)) = false := by simpa using c25
              (try (have c25b1 : decide ((t278 == 0) = ((wrap64 (1 + t276)) == t270)) = false := by simpa using c25))
              (try (have c25b2 : ((t278 == 0) == ((wrap64 (1 + t276)) == t270)) = false := by simpa using c25))
              (try (have c25b3 : ¬ ((t278 == 0) = ((wrap64 (1 + t276)) == t270)) := by simpa using c25))
              clear c25
              obtain rfl := Option.some.inj H
              go_enter Try.func6, Try.ntmps6
              try go_wp2_with (first | ((with_reducible refine gate_callee (f := 8) rfl ?_); refine goesL_ (some 15) rfl rfl Try.func8 (by kernel_rfl) rfl #[.slice A0 l0.length c0] rfl (by (try simp only [List.map_toArray, List.map_cons, List.map_nil]); first | done | rfl | (simp only [List.length_drop, List.length_take]; rfl)) ?_; (with_reducible refine (keyeventkit_Light.calls _ _ l0 true _ ?side1 ?side2 A3.out).mono ?_); (case side1 => repeat (first | exact HR0.out | (with_reducible refine Kd.C_alloc ?_ _) | (with_reducible refine Kd.C_drewN ?_ _) | (with_reducible refine Kd.C_drew ?_))); (case side2 => exact HC0.out); rintro e w' ⟨rfl, ⟨nd, rfl⟩⟩; refine ⟨_, rfl, ?_⟩) | ((with_reducible refine gate_callee (f := 12) rfl ?_); refine goesL_ (some 19) rfl rfl Try.func12 (by kernel_rfl) rfl #[.slice A0 l0.length c0] rfl (by (try simp only [List.map_toArray, List.map_cons, List.map_nil]); first | done | rfl | (simp only [List.length_drop, List.length_take]; rfl)) ?_; (with_reducible refine (keyeventkit_Roll.calls _ _ l0 t267 t268 w _ ?side1 ?side2 ?side3 A5.out).mono ?_); (case side1 => repeat (first | (with_reducible first | exact HB.out | apply below_alloc | apply pw_below_drewN | apply below_drew1) | exact HB.out)); (case side2 => exact HR0.out); (case side3 => exact HC0.out); rintro e w133 ⟨g269, rfl, hi, hb, hb2⟩; refine ⟨_, rfl, ?_⟩; have n0_ := Aside0.mk (hb); have n1_ := Aside0.mk (hi); clear HB; have HB := n0_; have HI269 := n1_; clear n0_ n1_; (try clear hb); (try clear hb2); (try clear hk); (try clear hi)) | ((with_reducible refine gate_callee (f := 11) rfl ?_); refine goesL_ (some 20) rfl rfl Try.func11 (by kernel_rfl) rfl #[.pointer (some ⟨g269, 0, none⟩)] rfl (by (try simp only [List.map_toArray, List.map_cons, List.map_nil]); first | done | rfl | (simp only [List.length_drop, List.length_take]; rfl)) ?_; (with_reducible refine (keyeventkit_Primitive.calls k g269 t267 t268 t270 t271 t272 w _ ?side1 ?side2 A6.out).mono ?_); (case side1 => repeat (first | (with_reducible first | exact HI269.out | apply IsS59.alloc | apply IsS59.drewN | apply IsS59.drew | apply IsS59.set_1) | exact HI269.out)); (case side2 => repeat (first | (with_reducible first | exact HB.out | apply below_alloc | apply pw_below_drewN | apply below_drew1 | refine below_set ?_ (IsS59.ge HI269.out)) | exact HB.out)); rintro e w134 ⟨rfl, hi, hb, hk⟩; refine ⟨_, rfl, ?_⟩; have n0_ := Aside0.mk (hb); have n1_ := Aside0.mk (hi); clear HB; clear HI269; have HB := n0_; have HI269 := n1_; clear n0_ n1_; (try clear hb); (try clear hb2); (try clear hk); (try clear hi)) | ((with_reducible refine gate_dst (N := 5) rfl ?_); refine box_event ?hg (N := 5) ?hd (cs := #[.int .i64 0, .string (⟨#[]⟩ : ByteArray)]) (t := 29) ?hr ?_; (case hd => rfl); (case hg => rfl); (case hr => first | (go_simp; done) | (go_simp; rfl)); intro gb273 hg w135 hbox hb; have n0_ := Aside0.mk (IsS59.below (by repeat (first | (with_reducible first | exact HI269.out | apply IsS59.alloc | apply IsS59.drewN | apply IsS59.drew | apply IsS59.set_1) | exact HI269.out)) hb); have n1_ := Aside0.mk (below_step (by repeat (first | (with_reducible first | exact HB.out | apply below_alloc | apply pw_below_drewN | apply below_drew1 | refine below_set ?_ (IsS59.ge HI269.out)) | exact HB.out)) hb); have n2_ := Aside0.mk (hbox); have n3_ := Aside0.mk ((by rw [hg]; exact (below_size (by repeat (first | (with_reducible first | exact HB.out | apply below_alloc | apply pw_below_drewN | apply below_drew1 | refine below_set ?_ (IsS59.ge HI269.out)) | exact HB.out))) : w.heap.size ≤ gb273)); have n4_ := Aside0.mk ((by rw [hg]; exact (below_size (by repeat (first | (with_reducible first | exact HB.out | apply below_alloc | apply pw_below_drewN | apply below_drew1 | refine below_set ?_ (IsS59.ge HI269.out)) | exact HB.out))) : w.heap.size ≤ gb273)); have n5_ := Aside0.mk ((by rw [hg]; exact Nat.ne_of_lt (IsS59.lt (show IsS59 w _ g269 t267 t272 from by repeat (first | (with_reducible first | exact HI269.out | apply IsS59.alloc | apply IsS59.drewN | apply IsS59.drew | apply IsS59.set_1) | exact HI269.out))) : g269 ≠ gb273)); have n6_ := Aside0.mk ((by rw [hg]; exact Nat.ne_of_gt (IsS59.lt (show IsS59 w _ g269 t267 t272 from by repeat (first | (with_reducible first | exact HI269.out | apply IsS59.alloc | apply IsS59.drewN | apply IsS59.drew | apply IsS59.set_1) | exact HI269.out))) : gb273 ≠ g269)); clear HI269; clear HB; have HI269 := n0_; have HB := n1_; have BK273 := n2_; have GW273 := n3_; have GE273 := n4_; have NB269_273 := n5_; have NB273_269 := n6_; clear n0_ n1_ n2_ n3_ n4_ n5_ n6_; clear hb hbox hg; have hnb136 := NB273_269.out; have hnc136 := NB269_273.out; have hcz137_0 : w135.cell? ⟨gb273, 0, none⟩ = some (.int .i64 0) := (blk_cell BK273.out 0).trans rfl; have hcz137_1 : w135.cell? ⟨gb273, 1, none⟩ = some (.string (⟨#[]⟩ : ByteArray)) := (blk_cell BK273.out 1).trans rfl; have hfz137_0 := blk_frozen BK273.out 0; have hfz137_1 := blk_frozen BK273.out 1) | ((with_reducible refine gate_callee (f := 19) rfl ?_); refine goesL_ (some 25) rfl rfl Try.func19 (by kernel_rfl) rfl #[.int .i64 t270, .string t271] rfl (by (try simp only [List.map_toArray, List.map_cons, List.map_nil]); first | done | rfl | (simp only [List.length_drop, List.length_take]; rfl)) ?_; (with_reducible refine (primitive_Make.calls k t270 t271 t274 _ A7.out).mono ?_); rintro e w138 ⟨rfl, hb⟩; refine ⟨_, rfl, ?_⟩; have n0_ := Aside0.mk (IsS59.below (show IsS59 w ((w135.setCell ⟨gb273, 0, none⟩ (.int .i64 t270)).setCell ⟨gb273, 1, none⟩ (.string t271)) g269 t267 t272 from by repeat (first | (with_reducible first | exact HI269.out | apply IsS59.alloc | apply IsS59.drewN | apply IsS59.drew | apply IsS59.set_1 | refine IsS59.far ?_ NB269_273.out _) | exact HI269.out)) hb); have n1_ := Aside0.mk (blk_below (g := gb273) (o := .cells #[.int .i64 t270, .string t271] 29 (0, 0)) (by (with_reducible repeat (first | refine blk_drewN ?_ _ | refine blk_drew ?_ | refine blk_alloc ?_ _)); refine blk_put (cs := #[.int .i64 t270, .string (⟨#[]⟩ : ByteArray)]) ?_ 1 _ rfl; (with_reducible repeat (first | refine blk_drewN ?_ _ | refine blk_drew ?_ | refine blk_alloc ?_ _)); refine blk_put (cs := #[.int .i64 0, .string (⟨#[]⟩ : ByteArray)]) ?_ 0 _ rfl; (with_reducible repeat (first | refine blk_drewN ?_ _ | refine blk_drew ?_ | refine blk_alloc ?_ _)); exact BK273.out) hb); have n2_ := Aside0.mk (below_step (by repeat (first | (with_reducible first | exact HB.out | apply below_alloc | apply pw_below_drewN | apply below_drew1 | refine below_set ?_ (IsS59.ge HI269.out) | refine below_set ?_ GE273.out) | exact HB.out)) hb); clear HI269; clear BK273; clear HB; have HI269 := n0_; have BK273 := n1_; have HB := n2_; clear n0_ n1_ n2_; (try clear hb); (try clear hb2); (try clear hk); (try clear hi)) | ((with_reducible refine gate_callee (f := 20) rfl ?_); refine goesL_ (some 30) rfl rfl Try.func20 (by kernel_rfl) rfl #[.int .i64 a1, .int .i64 8] rfl (by (try simp only [List.map_toArray, List.map_cons, List.map_nil]); first | done | rfl | (simp only [List.length_drop, List.length_take]; rfl)) ?_; (with_reducible refine (keyeventkit_Mod.calls a1 8 t276 _ A17.out).mono ?_); rintro e w' ⟨rfl, ⟨nd, rfl⟩⟩; refine ⟨_, rfl, ?_⟩) | ((with_reducible refine gate_callee (f := 21) rfl ?_); refine goesL_ (some 35) rfl rfl Try.func21 (by kernel_rfl) rfl #[.int .i64 (wrap64 (1 + t276)), .string t274] rfl (by (try simp only [List.map_toArray, List.map_cons, List.map_nil]); first | done | rfl | (simp only [List.length_drop, List.length_take]; rfl)) ?_; (with_reducible refine (primitive_Open.calls k (wrap64 (1 + t276)) t274 t277 t278 _ A18.out).mono ?_); rintro e w139 ⟨rfl, hb⟩; refine ⟨_, rfl, ?_⟩; have n0_ := Aside0.mk (IsS59.below (by repeat (first | (with_reducible first | exact HI269.out | apply IsS59.alloc | apply IsS59.drewN | apply IsS59.drew | apply IsS59.set_1 | refine IsS59.far ?_ NB269_273.out _) | exact HI269.out)) hb); have n1_ := Aside0.mk (blk_below (g := gb273) (o := .cells #[.int .i64 t270, .string t271] 29 (0, 0)) (by (with_reducible repeat (first | refine blk_drewN ?_ _ | refine blk_drew ?_ | refine blk_alloc ?_ _)); exact BK273.out) hb); have n2_ := Aside0.mk (below_step (by repeat (first | (with_reducible first | exact HB.out | apply below_alloc | apply pw_below_drewN | apply below_drew1 | refine below_set ?_ (IsS59.ge HI269.out) | refine below_set ?_ GE273.out) | exact HB.out)) hb); clear HI269; clear BK273; clear HB; have HI269 := n0_; have BK273 := n1_; have HB := n2_; clear n0_ n1_ n2_; (try clear hb); (try clear hb2); (try clear hk); (try clear hi); have hcz140_0 : w139.cell? ⟨gb273, 0, none⟩ = some (.int .i64 t270) := (blk_cell BK273.out 0).trans rfl; have hcz140_1 : w139.cell? ⟨gb273, 1, none⟩ = some (.string t271) := (blk_cell BK273.out 1).trans rfl; have hfz140_0 := blk_frozen BK273.out 0; have hfz140_1 := blk_frozen BK273.out 1) | ((with_reducible refine gate_callee (f := 21) rfl ?_); refine goesL_ (some 43) rfl rfl Try.func21 (by kernel_rfl) rfl #[.int .i64 t270, .string (t274 ++ (⟨#[65]⟩ : ByteArray))] rfl (by (try simp only [List.map_toArray, List.map_cons, List.map_nil]); first | done | rfl | (simp only [List.length_drop, List.length_take]; rfl)) ?_; (with_reducible refine (primitive_Open.calls k t270 (t274 ++ (⟨#[65]⟩ : ByteArray)) t279 t280 _ A20.out).mono ?_); rintro e w141 ⟨rfl, hb⟩; refine ⟨_, rfl, ?_⟩; have n0_ := Aside0.mk (IsS59.below (by repeat (first | (with_reducible first | exact HI269.out | apply IsS59.alloc | apply IsS59.drewN | apply IsS59.drew | apply IsS59.set_1 | refine IsS59.far ?_ NB269_273.out _) | exact HI269.out)) hb); have n1_ := Aside0.mk (blk_below (g := gb273) (o := .cells #[.int .i64 t270, .string t271] 29 (0, 0)) (by (with_reducible repeat (first | refine blk_drewN ?_ _ | refine blk_drew ?_ | refine blk_alloc ?_ _)); exact BK273.out) hb); have n2_ := Aside0.mk (below_step (by repeat (first | (with_reducible first | exact HB.out | apply below_alloc | apply pw_below_drewN | apply below_drew1 | refine below_set ?_ (IsS59.ge HI269.out) | refine below_set ?_ GE273.out) | exact HB.out)) hb); clear HI269; clear BK273; clear HB; have HI269 := n0_; have BK273 := n1_; have HB := n2_; clear n0_ n1_ n2_; (try clear hb); (try clear hb2); (try clear hk); (try clear hi)))
              have n0_ := Aside0.mk (blk_drew BK273.out)
              have n1_ := Aside0.mk (IsS59.drew HI269.out)
              have n2_ := Aside0.mk (below_drew1 HB.out)
              clear BK273
              clear HI269
              clear HB
              have BK273 := n0_
              have HI269 := n1_
              have HB := n2_
              clear n0_ n1_ n2_
              refine start_ (n := 13) (S := fun w' => w'.cell? ⟨gb273, 0, none⟩ = some (.int .i64 t270) ∧ w'.cell? ⟨gb273, 1, none⟩ = some (.string t271)) (ds := []) #[false, false, false, false, false, false, false, false, false, false, false, false, false] (by kernel_rfl) rfl rfl ⟨(blk_cell BK273.out 0).trans rfl, (blk_cell BK273.out 1).trans rfl⟩ (fun hHeld => ?_); refine with_tabW keyeventlaw03_PrimitiveOpens.tab10 keyeventlaw03_PrimitiveOpens.bits10 (fun HT_ HW_ => ?_)
              generalize w141.drew = w142 at BK273 HI269 HB hHeld ⊢
              refine pure_ (i := 0) (N := some 47) (v := ?_) (a' := ?_) #[true, false, false, false, false, false, false, false, false, false, false, false, false] rfl rfl (any_of HT_.out (by kernel_rfl)) (fun _ _ _ h => h) (Or.inl ⟨by rfl, ?_⟩) ?_ ?_
              rotate_left
              · intro w'
                go_simp
                with_reducible rfl
              rotate_left
              · simp only [Act.put, List.setIfInBounds_toArray, List.set_cons_zero, List.set_cons_succ, i64_w, i32_w]
                rfl
              refine pure_ (i := 2) (N := some 49) (v := ?_) (a' := ?_) #[true, false, true, false, false, false, false, false, false, false, false, false, false] rfl rfl (any_of HT_.out (by kernel_rfl)) (fun _ _ _ h => h) (Or.inl ⟨by rfl, ?_⟩) ?_ ?_
              rotate_left
              · intro w'
                go_simp
                with_reducible rfl
              rotate_left
              · simp only [Act.put, List.setIfInBounds_toArray, List.set_cons_zero, List.set_cons_succ, i64_w, i32_w]
                rfl
              refine pure_ (i := 3) (N := some 50) (v := ?_) (a' := ?_) #[true, false, true, true, false, false, false, false, false, false, false, false, false] rfl rfl (any_of HT_.out (by kernel_rfl)) (fun _ _ _ h => h) (Or.inl ⟨by rfl, ?_⟩) ?_ ?_
              rotate_left
              · intro w'
                go_simp
                with_reducible rfl
              rotate_left
              · simp only [Act.put, List.setIfInBounds_toArray, List.set_cons_zero, List.set_cons_succ, i64_w, i32_w]
                rfl
              refine pure_ (i := 4) (N := some 51) (v := ?_) (a' := ?_) #[true, false, true, true, true, false, false, false, false, false, false, false, false] rfl rfl (any_of HT_.out (by kernel_rfl)) (fun _ _ _ h => h) (Or.inl ⟨by rfl, ?_⟩) ?_ ?_
              rotate_left
              · intro w'
                go_simp
                with_reducible rfl
              rotate_left
              · simp only [Act.put, List.setIfInBounds_toArray, List.set_cons_zero, List.set_cons_succ, i64_w, i32_w]
                rfl
              refine pure_ (i := 5) (N := some 52) (v := ?_) (a' := ?_) #[true, false, true, true, true, true, false, false, false, false, false, false, false] rfl rfl (any_of HT_.out (by kernel_rfl)) (fun _ _ _ h => h) (Or.inl ⟨by rfl, ?_⟩) ?_ ?_
              rotate_left
              · intro w'
                go_simp
                with_reducible rfl
              rotate_left
              · simp only [Act.put, List.setIfInBounds_toArray, List.set_cons_zero, List.set_cons_succ, i64_w, i32_w]
                rfl
              refine pure_ (i := 6) (N := some 53) (v := ?_) (a' := ?_) #[true, false, true, true, true, true, true, false, false, false, false, false, false] rfl rfl (any_of HT_.out (by kernel_rfl)) (fun _ _ _ h => h) (Or.inl ⟨by rfl, ?_⟩) ?_ ?_
              rotate_left
              · intro w'
                go_simp
                with_reducible rfl
              rotate_left
              · simp only [Act.put, List.setIfInBounds_toArray, List.set_cons_zero, List.set_cons_succ, i64_w, i32_w]
                rfl
              refine take_ (i := 1) (N := some 48) (v := ?_) (a' := ?_) #[true, true, true, true, true, true, true, false, false, false, false, false, false] rfl rfl (take_ofW HT_.out HW_.out (by kernel_rfl)) (fun _ _ _ h => h) (Or.inl ⟨by rfl, ?_⟩) hHeld ?_ ?_
              rotate_left
              · rintro w' ⟨s0, s1⟩
                go_simp
                with_reducible rfl
              rotate_left
              · simp only [Act.put, List.setIfInBounds_toArray, List.set_cons_zero, List.set_cons_succ, i64_w, i32_w]
                rfl
              refine one_ (i := 7) (N := some 54) #[true, true, true, true, true, true, true, true, false, false, false, false, false] rfl rfl (one_of HT_.out (by kernel_rfl)) (by decide) (fun K hK => ?_)
              refine goes_ Try.func21 (by kernel_rfl) rfl #[.int .i64 t270, .string (t274.extract 0 ((ji21) : Int).toNat)] (by rfl) rfl rfl (by (try simp only [List.map_toArray, List.map_cons, List.map_nil]); first | done | (simp only [hji21]; rfl) | rfl | (simp only [List.length_drop, List.length_take]; rfl)) ?_
              with_reducible refine (primitive_Open.calls k t270 (t274.extract 0 ((ji21) : Int).toNat) t281 t282 _ A24.out).mono ?_
              rintro e w143 ⟨rfl, hb⟩
              refine ⟨_, rfl, ?_⟩
              have n0_ := Aside0.mk (IsS59.below (by repeat (first | (with_reducible first | exact HI269.out | apply IsS59.alloc | apply IsS59.drewN | apply IsS59.drew | apply IsS59.set_1 | refine IsS59.far ?_ NB269_273.out _) | exact HI269.out)) hb)
              have n1_ := Aside0.mk (blk_below (g := gb273) (o := .cells #[.int .i64 t270, .string t271] 29 (0, 0)) (by (with_reducible repeat (first | refine blk_drewN ?_ _ | refine blk_drew ?_ | refine blk_alloc ?_ _)); exact BK273.out) hb)
              have n2_ := Aside0.mk (below_step (by repeat (first | (with_reducible first | exact HB.out | apply below_alloc | apply pw_below_drewN | apply below_drew1 | refine below_set ?_ (IsS59.ge HI269.out) | refine below_set ?_ GE273.out) | exact HB.out)) hb)
              clear HI269
              clear BK273
              clear HB
              have HI269 := n0_
              have BK273 := n1_
              have HB := n2_
              clear n0_ n1_ n2_
              (try clear hb)
              (try clear hb2)
              (try clear hk)
              (try clear hi)
              refine hK.out _ _ ⟨(blk_cell BK273.out 0).trans rfl, (blk_cell BK273.out 1).trans rfl⟩ (fun hHeld => ?_)
              clear hK K
              refine norm_ (a' := ?_) ?_ ?_
              rotate_left
              · show Act.put _ (some 54) _ = _
                simp only [Act.put, List.setIfInBounds_toArray, List.set_cons_zero, List.set_cons_succ, i64_w, i32_w]
                rfl
              refine pure_ (i := 8) (N := some 46) (v := ?_) (a' := ?_) #[true, true, true, true, true, true, true, true, true, false, false, false, false] rfl rfl (any_of HT_.out (by kernel_rfl)) (fun _ _ _ h => h) (Or.inl ⟨by rfl, ?_⟩) ?_ ?_
              rotate_left
              · intro w'
                go_simp
                with_reducible rfl
              rotate_left
              · simp only [Act.put, List.setIfInBounds_toArray, List.set_cons_zero, List.set_cons_succ, i64_w, i32_w]
                rfl
              refine pure_ (i := 9) (N := some 55) (v := ?_) (a' := ?_) #[true, true, true, true, true, true, true, true, true, true, false, false, false] rfl rfl (any_of HT_.out (by kernel_rfl)) (fun _ _ _ h => h) (Or.inl ⟨by rfl, ?_⟩) ?_ ?_
              rotate_left
              · intro w'
                go_simp
                with_reducible rfl
              rotate_left
              · simp only [Act.put, List.setIfInBounds_toArray, List.set_cons_zero, List.set_cons_succ, i64_w, i32_w]
                rfl
              refine pure_ (i := 10) (N := some 56) (v := ?_) (a' := ?_) #[true, true, true, true, true, true, true, true, true, true, true, false, false] rfl rfl (any_of HT_.out (by kernel_rfl)) (fun _ _ _ h => h) (Or.inl ⟨by rfl, ?_⟩) ?_ ?_
              rotate_left
              · intro w'
                go_simp
                with_reducible rfl
              rotate_left
              · simp only [Act.put, List.setIfInBounds_toArray, List.set_cons_zero, List.set_cons_succ, i64_w, i32_w]
                rfl
              refine pure_ (i := 11) (N := some 12) (v := ?_) (a' := ?_) #[true, true, true, true, true, true, true, true, true, true, true, true, false] rfl rfl (any_of HT_.out (by kernel_rfl)) (fun _ _ _ h => h) (Or.inl ⟨by rfl, ?_⟩) ?_ ?_
              rotate_left
              · intro w'
                go_simp
                with_reducible rfl
              rotate_left
              · simp only [Act.put, List.setIfInBounds_toArray, List.set_cons_zero, List.set_cons_succ, i64_w, i32_w]
                rfl
              refine pure_ (i := 12) (N := some 13) (v := ?_) (a' := ?_) #[true, true, true, true, true, true, true, true, true, true, true, true, true] rfl rfl (any_of HT_.out (by kernel_rfl)) (fun _ _ _ h => h) (Or.inl ⟨by rfl, ?_⟩) ?_ ?_
              rotate_left
              · intro w'
                go_simp
                with_reducible rfl
              rotate_left
              · simp only [Act.put, List.setIfInBounds_toArray, List.set_cons_zero, List.set_cons_succ, i64_w, i32_w]
                rfl
              refine done_ (done_of HT_.out (by kernel_rfl)) ?_
              have hcz144_0 : w143.cell? ⟨gb273, 0, none⟩ = some (.int .i64 t270) := (blk_cell BK273.out 0).trans rfl
              have hcz144_1 : w143.cell? ⟨gb273, 1, none⟩ = some (.string t271) := (blk_cell BK273.out 1).trans rfl
              have hfz144_0 := blk_frozen BK273.out 0
              have hfz144_1 := blk_frozen BK273.out 1
              try go_wp2
              go_ret
              exact ⟨by first | rfl | (simp [errW_none, errW_some] <;> rfl) | (simp only [← hji21]; first | rfl | (simp [errW_none, errW_some] <;> rfl)) | (simp [*, errW_none, errW_some] <;> rfl), by repeat (first | (with_reducible first | exact HB.out | apply below_alloc | apply pw_below_drewN | apply below_drew1 | refine below_set ?_ (IsS59.ge HI269.out) | refine below_set ?_ GE273.out) | exact HB.out)⟩
          · rw [if_neg c23] at H
            exact absurd H (by simp)
        · rw [if_neg c22] at H
          exact absurd H (by simp)
      · rw [if_neg c19] at H
        exact absurd H (by simp)
  · replace c4 := Bool.eq_false_iff.mpr c4
    subst c4
    have H1 : ((keyeventlaw03_awake.f k).bind fun t266 => (some t266)) = some r := by rw [if_neg (show ¬ (false = true) by decide)] at H; exact H
    clear H
    have H := H1
    clear H1
    replace H := Option.bind_eq_some_iff.mp H
    obtain ⟨t266, A1450, H⟩ := H
    replace H : (some t266) = some r := H
    have A145 := Aside0.mk A1450
    clear A1450
    obtain rfl := Option.some.inj H
    go_enter Try.func6, Try.ntmps6
    go_wp2_with (first | ((with_reducible refine gate_callee (f := 8) rfl ?_); refine goesL_ (some 15) rfl rfl Try.func8 (by kernel_rfl) rfl #[.slice A0 l0.length c0] rfl (by (try simp only [List.map_toArray, List.map_cons, List.map_nil]); first | done | rfl | (simp only [List.length_drop, List.length_take]; rfl)) ?_; (with_reducible refine (keyeventkit_Light.calls _ _ l0 false _ ?side1 ?side2 A3.out).mono ?_); (case side1 => repeat (first | exact HR0.out | (with_reducible refine Kd.C_alloc ?_ _) | (with_reducible refine Kd.C_drewN ?_ _) | (with_reducible refine Kd.C_drew ?_))); (case side2 => exact HC0.out); rintro e w' ⟨rfl, ⟨nd, rfl⟩⟩; refine ⟨_, rfl, ?_⟩) | ((with_reducible refine gate_callee (f := 9) rfl ?_); refine goesL_ (some 17) rfl rfl Try.func9 (by kernel_rfl) rfl #[] rfl (by (try simp only [List.map_toArray, List.map_cons, List.map_nil]); first | done | rfl | (simp only [List.length_drop, List.length_take]; rfl)) ?_; (with_reducible refine (keyeventlaw03_awake.calls k  t266 _ A145.out).mono ?_); rintro e w146 ⟨rfl, hb⟩; refine ⟨_, rfl, ?_⟩; have n0_ := Aside0.mk (below_step (by repeat (first | (with_reducible first | exact HB.out | apply below_alloc | apply pw_below_drewN | apply below_drew1) | exact HB.out)) hb); clear HB; have HB := n0_; clear n0_; (try clear hb); (try clear hb2); (try clear hk); (try clear hi)))
    go_ret
    exact ⟨by first | rfl | (simp [errW_none, errW_some] <;> rfl) | (simp [*, errW_none, errW_some] <;> rfl), by repeat (first | (with_reducible first | exact HB.out | apply below_alloc | apply pw_below_drewN | apply below_drew1) | exact HB.out)⟩

/-- THE ONE PURE STATEMENT of keyeventlaw03_PrimitiveOpens: yours. -/
def keyeventlaw03_PrimitiveOpens.Pure : Prop := ∀ (l0 : List Int) (a1 : Int), l0.length ≤ maxLen → l0.length * 8 ≤ 140737488351232 → (∀ x ∈ l0, (Lit.int .i64 x).wf = true) → (Lit.int .i64 a1).wf = true → ∃ k, keyeventlaw03_PrimitiveOpens.f k l0 a1 = some true
theorem keyeventlaw03_PrimitiveOpens.walk (P : keyeventlaw03_PrimitiveOpens.Pure) (a0 : Option Addr) (len0 cap0 : Nat) (z0 : List Int) (a1 : Int) (w : World) (w0 : (a0 = none ∧ len0 = 0 ∧ cap0 = 0 ∧ z0 = []) ∨ ∃ x, a0 = some x ∧ len0 ≤ cap0 ∧ cap0 ≤ maxLen ∧ z0.length = cap0 ∧ (∀ i, i < z0.length → w.cell? (x.add i) = some (.int .i64 (z0.getD i 0))) ∧ ∀ n ∈ z0, (Lit.int .i64 n).wf = true) (y0 : len0 * 8 ≤ 140737488351232) (w1 : (Lit.int .i64 a1).wf = true) :
    Calls Try.prog 6 #[.slice a0 len0 cap0, .int .i64 a1] w fun e w' => e = .returned (.bool true) ∧ Below w.heap.size w w' := by
  obtain ⟨l0, rfl, hr0, hm0, hw0, hc0⟩ := ReadsInt.ofRowC w0
  obtain ⟨k, h⟩ := P l0 a1 hm0 y0 hw0 w1
  refine (keyeventlaw03_PrimitiveOpens.calls k _ _ l0 a1 true w (Kd.C_of_reads (d := (0 : Int)) (h1 := fun _ => rfl) hr0) hc0 h).mono ?_
  rintro e w' ⟨rfl, hd⟩
  exact ⟨rfl, hd⟩

end Go.Proofs.Ytgicgdiklinomaa.X
