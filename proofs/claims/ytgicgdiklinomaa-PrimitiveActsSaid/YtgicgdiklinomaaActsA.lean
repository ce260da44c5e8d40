-- Written by xprint.py, a program of this repo that leads the kit's print.py: Lean checks it.
import Derived.Test.YtgicgdiklinomaaX0
import Derived.Test.YtgicgdiklinomaaX1
import Derived.Test.YtgicgdiklinomaaX2
import Derived.Test.YtgicgdiklinomaaX4
import Derived.Test.YtgicgdiklinomaaX5
import Derived.Test.YtgicgdiklinomaaX6
import Derived.Test.YtgicgdiklinomaaX7
import Derived.Test.YtgicgdiklinomaaX8
import Derived.Test.YtgicgdiklinomaaX12
import Derived.Test.YtgicgdiklinomaaX13
import Derived.Test.YtgicgdiklinomaaX15
import Derived.Test.YtgicgdiklinomaaX16
import Derived.Test.YtgicgdiklinomaaX18
import Derived.Test.YtgicgdiklinomaaX19
namespace Go.Proofs.Ytgicgdiklinomaa.X
open Go.RowKit Go.Proofs.YtgicgdiklinomaaW.PrintWords Go.Proofs.YtgicgdiklinomaaW.PrintLast Go.Proofs.YtgicgdiklinomaaW.PrintMore
attribute [local go_sem] max2_int min2_int max_two min_two max_three min_three max_four min_four   -- for this text's walks alone
set_option linter.unusedVariables false
set_option linter.unusedSimpArgs false

attribute [local go_sem high] eqA29
/-! Short forms (their last argument is found by the words that the print spells out each time). -/
theorem bq {w0 w : World} {g : Nat} {o : Obj} (h0 : w0.heap[g]? = some o) (h : w0.heap[g]? = some o → w.heap[g]? = some o := by intro h_; (with_reducible repeat (first | refine blk_drewN ?_ _ | refine blk_drew ?_ | refine blk_alloc ?_ _)); exact h_) : w.heap[g]? = some o := h h0
theorem rq {α : Type} {d : Kd α} {e : Nat} {w0 w : World} {base : Nat} {ok : Nat → Prop} {v : Value} {xs : List α} (h0 : d.R e w0 base ok v xs) (h : d.R e w0 base ok v xs → d.R e w base ok v xs := by intro h_; (with_reducible repeat (first | apply Kd.R_alloc | apply Kd.R_drewN | apply Kd.R_drew)); exact h_) : d.R e w base ok v xs := h h0
theorem eq_ {p : Prop} (h : p := by (try simp only [List.map_toArray, List.map_cons, List.map_nil]); first | done | rfl | (simp only [List.length_drop, List.length_take]; rfl)) : p := h
theorem aq {p : Prop} (h : p := by first | (with_reducible assumption) | assumption) : p := h
/-! ### keyeventlaw03_PrimitiveActs: function 7 -/
mutual
def keyeventlaw03_PrimitiveActs.j0 : Nat → List Int → ByteArray → Int → Int → Int → Bool → Int → ByteArray → Option (Bool)
  | 0, _, _, _, _, _, _, _, _ => none
  | k + 1, x0, x2, x3, x4, x5, x64, x240000, x240001 => if x64 = true then ((keyeventlaw03_awake.f k).bind fun t241 => (some t241)) else ((keyeventkit_Roll.f x0).bind fun bt242 => ((keyeventkit_Primitive.f k bt242.1 bt242.2).bind fun bt245 => ((keyeventref03_Encode.f k bt245.1 bt245.2.1).bind fun bt249 => ((some (([(⟨bt245.1, bt245.2.1⟩ : S29), (⟨x240000, x240001⟩ : S29)] : List (S29)) : List (S29))).bind fun y251 => (keyeventlaw03_PrimitiveActs.l0 k x2 x3 x4 x5 bt249.1 y251 (y251.length : Int) 0 bt245.1 bt245.2.1)))))
def keyeventlaw03_PrimitiveActs.l0 : Nat → ByteArray → Int → Int → Int → ByteArray → List (S29) → Int → Int → Int → ByteArray → Option (Bool)
  | 0, _, _, _, _, _, _, _, _, _, _ => none
  | k + 1, x2, x3, x4, x5, x15, x77, x78, x79, x249000, x249001 => if x79 < x78 then (if 0 ≤ x79 then (if x79 < (x77.length : Int) then ((primitive_Encode.f k ((rd_T29 x77 x79).f0) ((rd_T29 x77 x79).f1)).bind fun bt256 => ((keyeventref03_Encode.f k ((rd_T29 x77 x79).f0) ((rd_T29 x77 x79).f1)).bind fun bt258 => (if bt256.1.toList = bt258.1.toList then (if bt256.2 = bt258.2 then ((primitive_Make.f k ((rd_T29 x77 x79).f0) ((rd_T29 x77 x79).f1)).bind fun t260 => ((keyeventref03_Make.f k ((rd_T29 x77 x79).f0) ((rd_T29 x77 x79).f1)).bind fun t261 => (if t260.toList = t261.toList then (keyeventlaw03_PrimitiveActs.l0 k x2 x3 x4 x5 x15 x77 x78 (wrap64 (x79 + 1)) x249000 x249001) else (some false)))) else (some false)) else (some false)))) else (none)) else (none)) else ((keyeventkit_Spoil.f x15 x3 x4).bind fun t262 => ((keyeventkit_Mod.f x3 (wrap64 ((x15.size : Int) + 1))).bind fun t263 => (if 0 ≤ t263 then (if t263 ≤ (x15.size : Int) then (if x15.size + x2.size ≤ 9223372036854775807 then ((some (([x15, x2, t262, x15.extract 0 (t263 : Int).toNat, x15 ++ x2] : List ByteArray) : List ByteArray)).bind fun y264 => (keyeventlaw03_PrimitiveActs.l1 k x5 y264 (y264.length : Int) 0 x249000 x249001)) else (none)) else (none)) else (none))))
def keyeventlaw03_PrimitiveActs.l1 : Nat → Int → List ByteArray → Int → Int → Int → ByteArray → Option (Bool)
  | 0, _, _, _, _, _, _ => none
  | k + 1, x5, x131, x132, x133, x249000, x249001 => if x133 < x132 then (if 0 ≤ x133 then (if x133 < (x131.length : Int) then ((primitive_Decode.f k (rdOf ByteArray.empty x131 x133)).bind fun bt268 => ((keyeventref03_Decode.f k (rdOf ByteArray.empty x131 x133)).bind fun bt273 => (if (!(bt268.1 == bt273.1) || (!(bt268.2.1.toList == bt273.2.1.toList))) = true then (keyeventlaw03_PrimitiveActs.j3 k x5 (rdOf ByteArray.empty x131 x133) x131 x132 x133 true x249000 x249001) else (if bt268.2.2.1 = bt273.2.2.1 then (keyeventlaw03_PrimitiveActs.j3 k x5 (rdOf ByteArray.empty x131 x133) x131 x132 x133 (bt268.2.2.2 != bt273.2.2.2) x249000 x249001) else (keyeventlaw03_PrimitiveActs.j3 k x5 (rdOf ByteArray.empty x131 x133) x131 x132 x133 true x249000 x249001))))) else (none)) else (none)) else ((keyeventkit_Mod.f x5 11).bind fun t295 => ((some (([x5, wrap64 (t295 - 1)] : List Int) : List Int)).bind fun y296 => (keyeventlaw03_PrimitiveActs.l3 k y296 (y296.length : Int) 0)))
def keyeventlaw03_PrimitiveActs.j3 : Nat → Int → ByteArray → List ByteArray → Int → Int → Bool → Int → ByteArray → Option (Bool)
  | 0, _, _, _, _, _, _, _, _ => none
  | k + 1, x5, x24, x131, x132, x133, x161, x249000, x249001 => if x161 = true then (some false) else ((keyeventkit_Mod.f x5 8).bind fun t278 => ((some (([x5, x249000, wrap64 (1 + t278)] : List Int) : List Int)).bind fun y279 => (keyeventlaw03_PrimitiveActs.l2 k x5 x24 x131 x132 x133 y279 (y279.length : Int) 0 x249000 x249001)))
def keyeventlaw03_PrimitiveActs.l2 : Nat → Int → ByteArray → List ByteArray → Int → Int → List Int → Int → Int → Int → ByteArray → Option (Bool)
  | 0, _, _, _, _, _, _, _, _, _, _ => none
  | k + 1, x5, x24, x131, x132, x133, x168, x169, x170, x249000, x249001 => if x170 < x169 then (if 0 ≤ x170 then (if x170 < (x168.length : Int) then ((primitive_Open.f k (rd x168 x170) x24).bind fun bt283 => ((keyeventref03_Open.f k (rd x168 x170) x24).bind fun bt285 => (if bt283.1.toList = bt285.1.toList then (if bt283.2 = bt285.2 then (keyeventlaw03_PrimitiveActs.l2 k x5 x24 x131 x132 x133 x168 x169 (wrap64 (x170 + 1)) x249000 x249001) else (some false)) else (some false)))) else (none)) else (none)) else ((primitive_Binary.f k x24).bind fun bt287 => ((keyeventref03_Binary.f k x24).bind fun bt289 => ((primitive_Text.f k x24).bind fun bt291 => ((keyeventref03_Text.f k x24).bind fun bt293 => (if bt287.1.toList = bt289.1.toList then (if bt287.2 = bt289.2 then (if bt291.1.toList = bt293.1.toList then (if bt291.2 = bt293.2 then (keyeventlaw03_PrimitiveActs.l1 k x5 x131 x132 (wrap64 (x133 + 1)) x249000 x249001) else (some false)) else (some false)) else (some false)) else (some false))))))
def keyeventlaw03_PrimitiveActs.l3 : Nat → List Int → Int → Int → Option (Bool)
  | 0, _, _, _ => none
  | k + 1, x238, x239, x240 => if x240 < x239 then (if 0 ≤ x240 then (if x240 < (x238.length : Int) then ((primitive_Code.f (rd x238 x240)).bind fun bt301 => ((keyeventref03_Code.f (rd x238 x240)).bind fun bt303 => (if bt301.1.toList = bt303.1.toList then (if (bt301.2 != bt303.2) = true then (some false) else ((primitive_Raw.f (rd x238 x240)).bind fun t305 => ((keyeventref03_Raw.f (rd x238 x240)).bind fun t306 => (if t305 = t306 then ((primitive_Size.f (rd x238 x240)).bind fun t307 => ((keyeventref03_Size.f (rd x238 x240)).bind fun t308 => (if t307 = t308 then (keyeventlaw03_PrimitiveActs.l3 k x238 x239 (wrap64 (x240 + 1))) else (some false)))) else (some false))))) else (some false)))) else (none)) else (none)) else ((keyeventlaw03_awake.f k).bind fun t299 => (some t299))
end
def keyeventlaw03_PrimitiveActs.f (k : Nat) (l0 : List Int) (a1_0 : Int) (a1_1 : ByteArray) (a2 : ByteArray) (a3 : Int) (a4 : Int) (a5 : Int) : Option (Bool) := (keyeventkit_Light.f l0).bind fun t240 => (if t240 = true then (if (a1_1.size : Int) > 2000 then (keyeventlaw03_PrimitiveActs.j0 k l0 a2 a3 a4 a5 true a1_0 a1_1) else (keyeventlaw03_PrimitiveActs.j0 k l0 a2 a3 a4 a5 (decide ((a2.size : Int) > 2000)) a1_0 a1_1)) else (keyeventlaw03_PrimitiveActs.j0 k l0 a2 a3 a4 a5 true a1_0 a1_1))
theorem keyeventlaw03_PrimitiveActs.mono_l : ∀ k, (∀ y0 y1 y2 y3 y4 y5 y6 y7, LeO (keyeventlaw03_PrimitiveActs.j0 k y0 y1 y2 y3 y4 y5 y6 y7) (keyeventlaw03_PrimitiveActs.j0 (k + 1) y0 y1 y2 y3 y4 y5 y6 y7)) ∧ (∀ y0 y1 y2 y3 y4 y5 y6 y7 y8 y9, LeO (keyeventlaw03_PrimitiveActs.l0 k y0 y1 y2 y3 y4 y5 y6 y7 y8 y9) (keyeventlaw03_PrimitiveActs.l0 (k + 1) y0 y1 y2 y3 y4 y5 y6 y7 y8 y9)) ∧ (∀ y0 y1 y2 y3 y4 y5, LeO (keyeventlaw03_PrimitiveActs.l1 k y0 y1 y2 y3 y4 y5) (keyeventlaw03_PrimitiveActs.l1 (k + 1) y0 y1 y2 y3 y4 y5)) ∧ (∀ y0 y1 y2 y3 y4 y5 y6 y7, LeO (keyeventlaw03_PrimitiveActs.j3 k y0 y1 y2 y3 y4 y5 y6 y7) (keyeventlaw03_PrimitiveActs.j3 (k + 1) y0 y1 y2 y3 y4 y5 y6 y7)) ∧ (∀ y0 y1 y2 y3 y4 y5 y6 y7 y8 y9, LeO (keyeventlaw03_PrimitiveActs.l2 k y0 y1 y2 y3 y4 y5 y6 y7 y8 y9) (keyeventlaw03_PrimitiveActs.l2 (k + 1) y0 y1 y2 y3 y4 y5 y6 y7 y8 y9)) ∧ (∀ y0 y1 y2, LeO (keyeventlaw03_PrimitiveActs.l3 k y0 y1 y2) (keyeventlaw03_PrimitiveActs.l3 (k + 1) y0 y1 y2))
  | 0 => ⟨fun _ _ _ _ _ _ _ _ r h => by simp [keyeventlaw03_PrimitiveActs.j0] at h, fun _ _ _ _ _ _ _ _ _ _ r h => by simp [keyeventlaw03_PrimitiveActs.l0] at h, fun _ _ _ _ _ _ r h => by simp [keyeventlaw03_PrimitiveActs.l1] at h, fun _ _ _ _ _ _ _ _ r h => by simp [keyeventlaw03_PrimitiveActs.j3] at h, fun _ _ _ _ _ _ _ _ _ _ r h => by simp [keyeventlaw03_PrimitiveActs.l2] at h, fun _ _ _ r h => by simp [keyeventlaw03_PrimitiveActs.l3] at h⟩
  | k + 1 => by
    obtain ⟨ih0, ih1, ih2, ih3, ih4, ih5⟩ := keyeventlaw03_PrimitiveActs.mono_l k
    refine ⟨?_, ?_, ?_, ?_, ?_, ?_⟩
    · intro y0 y1 y2 y3 y4 y5 y6 y7
      unfold keyeventlaw03_PrimitiveActs.j0
      repeat' first
      | (with_reducible exact ih0 _ _ _ _ _ _ _ _)
      | (with_reducible exact ih1 _ _ _ _ _ _ _ _ _ _)
      | (with_reducible exact ih2 _ _ _ _ _ _)
      | (with_reducible exact ih3 _ _ _ _ _ _ _ _)
      | (with_reducible exact ih4 _ _ _ _ _ _ _ _ _ _)
      | (with_reducible exact ih5 _ _ _)
      | (with_reducible exact keyeventkit_Primitive.mono _ _ _)
      | (with_reducible exact keyeventlaw03_awake.mono _)
      | (with_reducible exact keyeventref03_Binary.mono _ _)
      | (with_reducible exact keyeventref03_Decode.mono _ _)
      | (with_reducible exact keyeventref03_Encode.mono _ _ _)
      | (with_reducible exact keyeventref03_Make.mono _ _ _)
      | (with_reducible exact keyeventref03_Open.mono _ _ _)
      | (with_reducible exact keyeventref03_Text.mono _ _)
      | (with_reducible exact primitive_Binary.mono _ _)
      | (with_reducible exact primitive_Decode.mono _ _)
      | (with_reducible exact primitive_Encode.mono _ _ _)
      | (with_reducible exact primitive_Make.mono _ _ _)
      | (with_reducible exact primitive_Open.mono _ _ _)
      | (with_reducible exact primitive_Text.mono _ _)
      | (with_reducible exact LeO.refl _)
      | (with_reducible exact LeO.none _)
      | (with_reducible refine LeO.ite ?_ ?_)
      | (with_reducible refine LeO.bind ?_ (fun _ => ?_))
      | exact ih0 _ _ _ _ _ _ _ _
      | exact ih1 _ _ _ _ _ _ _ _ _ _
      | exact ih2 _ _ _ _ _ _
      | exact ih3 _ _ _ _ _ _ _ _
      | exact ih4 _ _ _ _ _ _ _ _ _ _
      | exact ih5 _ _ _
      | exact keyeventkit_Primitive.mono _ _ _
      | exact keyeventlaw03_awake.mono _
      | exact keyeventref03_Binary.mono _ _
      | exact keyeventref03_Decode.mono _ _
      | exact keyeventref03_Encode.mono _ _ _
      | exact keyeventref03_Make.mono _ _ _
      | exact keyeventref03_Open.mono _ _ _
      | exact keyeventref03_Text.mono _ _
      | exact primitive_Binary.mono _ _
      | exact primitive_Decode.mono _ _
      | exact primitive_Encode.mono _ _ _
      | exact primitive_Make.mono _ _ _
      | exact primitive_Open.mono _ _ _
      | exact primitive_Text.mono _ _
      | exact LeO.none _
      | refine LeO.ite ?_ ?_
      | refine LeO.bind ?_ (fun _ => ?_)
    · intro y0 y1 y2 y3 y4 y5 y6 y7 y8 y9
      unfold keyeventlaw03_PrimitiveActs.l0
      repeat' first
      | (with_reducible exact ih0 _ _ _ _ _ _ _ _)
      | (with_reducible exact ih1 _ _ _ _ _ _ _ _ _ _)
      | (with_reducible exact ih2 _ _ _ _ _ _)
      | (with_reducible exact ih3 _ _ _ _ _ _ _ _)
      | (with_reducible exact ih4 _ _ _ _ _ _ _ _ _ _)
      | (with_reducible exact ih5 _ _ _)
      | (with_reducible exact keyeventkit_Primitive.mono _ _ _)
      | (with_reducible exact keyeventlaw03_awake.mono _)
      | (with_reducible exact keyeventref03_Binary.mono _ _)
      | (with_reducible exact keyeventref03_Decode.mono _ _)
      | (with_reducible exact keyeventref03_Encode.mono _ _ _)
      | (with_reducible exact keyeventref03_Make.mono _ _ _)
      | (with_reducible exact keyeventref03_Open.mono _ _ _)
      | (with_reducible exact keyeventref03_Text.mono _ _)
      | (with_reducible exact primitive_Binary.mono _ _)
      | (with_reducible exact primitive_Decode.mono _ _)
      | (with_reducible exact primitive_Encode.mono _ _ _)
      | (with_reducible exact primitive_Make.mono _ _ _)
      | (with_reducible exact primitive_Open.mono _ _ _)
      | (with_reducible exact primitive_Text.mono _ _)
      | (with_reducible exact LeO.refl _)
      | (with_reducible exact LeO.none _)
      | (with_reducible refine LeO.ite ?_ ?_)
      | (with_reducible refine LeO.bind ?_ (fun _ => ?_))
      | exact ih0 _ _ _ _ _ _ _ _
      | exact ih1 _ _ _ _ _ _ _ _ _ _
      | exact ih2 _ _ _ _ _ _
      | exact ih3 _ _ _ _ _ _ _ _
      | exact ih4 _ _ _ _ _ _ _ _ _ _
      | exact ih5 _ _ _
      | exact keyeventkit_Primitive.mono _ _ _
      | exact keyeventlaw03_awake.mono _
      | exact keyeventref03_Binary.mono _ _
      | exact keyeventref03_Decode.mono _ _
      | exact keyeventref03_Encode.mono _ _ _
      | exact keyeventref03_Make.mono _ _ _
      | exact keyeventref03_Open.mono _ _ _
      | exact keyeventref03_Text.mono _ _
      | exact primitive_Binary.mono _ _
      | exact primitive_Decode.mono _ _
      | exact primitive_Encode.mono _ _ _
      | exact primitive_Make.mono _ _ _
      | exact primitive_Open.mono _ _ _
      | exact primitive_Text.mono _ _
      | exact LeO.none _
      | refine LeO.ite ?_ ?_
      | refine LeO.bind ?_ (fun _ => ?_)
    · intro y0 y1 y2 y3 y4 y5
      unfold keyeventlaw03_PrimitiveActs.l1
      repeat' first
      | (with_reducible exact ih0 _ _ _ _ _ _ _ _)
      | (with_reducible exact ih1 _ _ _ _ _ _ _ _ _ _)
      | (with_reducible exact ih2 _ _ _ _ _ _)
      | (with_reducible exact ih3 _ _ _ _ _ _ _ _)
      | (with_reducible exact ih4 _ _ _ _ _ _ _ _ _ _)
      | (with_reducible exact ih5 _ _ _)
      | (with_reducible exact keyeventkit_Primitive.mono _ _ _)
      | (with_reducible exact keyeventlaw03_awake.mono _)
      | (with_reducible exact keyeventref03_Binary.mono _ _)
      | (with_reducible exact keyeventref03_Decode.mono _ _)
      | (with_reducible exact keyeventref03_Encode.mono _ _ _)
      | (with_reducible exact keyeventref03_Make.mono _ _ _)
      | (with_reducible exact keyeventref03_Open.mono _ _ _)
      | (with_reducible exact keyeventref03_Text.mono _ _)
      | (with_reducible exact primitive_Binary.mono _ _)
      | (with_reducible exact primitive_Decode.mono _ _)
      | (with_reducible exact primitive_Encode.mono _ _ _)
      | (with_reducible exact primitive_Make.mono _ _ _)
      | (with_reducible exact primitive_Open.mono _ _ _)
      | (with_reducible exact primitive_Text.mono _ _)
      | (with_reducible exact LeO.refl _)
      | (with_reducible exact LeO.none _)
      | (with_reducible refine LeO.ite ?_ ?_)
      | (with_reducible refine LeO.bind ?_ (fun _ => ?_))
      | exact ih0 _ _ _ _ _ _ _ _
      | exact ih1 _ _ _ _ _ _ _ _ _ _
      | exact ih2 _ _ _ _ _ _
      | exact ih3 _ _ _ _ _ _ _ _
      | exact ih4 _ _ _ _ _ _ _ _ _ _
      | exact ih5 _ _ _
      | exact keyeventkit_Primitive.mono _ _ _
      | exact keyeventlaw03_awake.mono _
      | exact keyeventref03_Binary.mono _ _
      | exact keyeventref03_Decode.mono _ _
      | exact keyeventref03_Encode.mono _ _ _
      | exact keyeventref03_Make.mono _ _ _
      | exact keyeventref03_Open.mono _ _ _
      | exact keyeventref03_Text.mono _ _
      | exact primitive_Binary.mono _ _
      | exact primitive_Decode.mono _ _
      | exact primitive_Encode.mono _ _ _
      | exact primitive_Make.mono _ _ _
      | exact primitive_Open.mono _ _ _
      | exact primitive_Text.mono _ _
      | exact LeO.none _
      | refine LeO.ite ?_ ?_
      | refine LeO.bind ?_ (fun _ => ?_)
    · intro y0 y1 y2 y3 y4 y5 y6 y7
      unfold keyeventlaw03_PrimitiveActs.j3
      repeat' first
      | (with_reducible exact ih0 _ _ _ _ _ _ _ _)
      | (with_reducible exact ih1 _ _ _ _ _ _ _ _ _ _)
      | (with_reducible exact ih2 _ _ _ _ _ _)
      | (with_reducible exact ih3 _ _ _ _ _ _ _ _)
      | (with_reducible exact ih4 _ _ _ _ _ _ _ _ _ _)
      | (with_reducible exact ih5 _ _ _)
      | (with_reducible exact keyeventkit_Primitive.mono _ _ _)
      | (with_reducible exact keyeventlaw03_awake.mono _)
      | (with_reducible exact keyeventref03_Binary.mono _ _)
      | (with_reducible exact keyeventref03_Decode.mono _ _)
      | (with_reducible exact keyeventref03_Encode.mono _ _ _)
      | (with_reducible exact keyeventref03_Make.mono _ _ _)
      | (with_reducible exact keyeventref03_Open.mono _ _ _)
      | (with_reducible exact keyeventref03_Text.mono _ _)
      | (with_reducible exact primitive_Binary.mono _ _)
      | (with_reducible exact primitive_Decode.mono _ _)
      | (with_reducible exact primitive_Encode.mono _ _ _)
      | (with_reducible exact primitive_Make.mono _ _ _)
      | (with_reducible exact primitive_Open.mono _ _ _)
      | (with_reducible exact primitive_Text.mono _ _)
      | (with_reducible exact LeO.refl _)
      | (with_reducible exact LeO.none _)
      | (with_reducible refine LeO.ite ?_ ?_)
      | (with_reducible refine LeO.bind ?_ (fun _ => ?_))
      | exact ih0 _ _ _ _ _ _ _ _
      | exact ih1 _ _ _ _ _ _ _ _ _ _
      | exact ih2 _ _ _ _ _ _
      | exact ih3 _ _ _ _ _ _ _ _
      | exact ih4 _ _ _ _ _ _ _ _ _ _
      | exact ih5 _ _ _
      | exact keyeventkit_Primitive.mono _ _ _
      | exact keyeventlaw03_awake.mono _
      | exact keyeventref03_Binary.mono _ _
      | exact keyeventref03_Decode.mono _ _
      | exact keyeventref03_Encode.mono _ _ _
      | exact keyeventref03_Make.mono _ _ _
      | exact keyeventref03_Open.mono _ _ _
      | exact keyeventref03_Text.mono _ _
      | exact primitive_Binary.mono _ _
      | exact primitive_Decode.mono _ _
      | exact primitive_Encode.mono _ _ _
      | exact primitive_Make.mono _ _ _
      | exact primitive_Open.mono _ _ _
      | exact primitive_Text.mono _ _
      | exact LeO.none _
      | refine LeO.ite ?_ ?_
      | refine LeO.bind ?_ (fun _ => ?_)
    · intro y0 y1 y2 y3 y4 y5 y6 y7 y8 y9
      unfold keyeventlaw03_PrimitiveActs.l2
      repeat' first
      | (with_reducible exact ih0 _ _ _ _ _ _ _ _)
      | (with_reducible exact ih1 _ _ _ _ _ _ _ _ _ _)
      | (with_reducible exact ih2 _ _ _ _ _ _)
      | (with_reducible exact ih3 _ _ _ _ _ _ _ _)
      | (with_reducible exact ih4 _ _ _ _ _ _ _ _ _ _)
      | (with_reducible exact ih5 _ _ _)
      | (with_reducible exact keyeventkit_Primitive.mono _ _ _)
      | (with_reducible exact keyeventlaw03_awake.mono _)
      | (with_reducible exact keyeventref03_Binary.mono _ _)
      | (with_reducible exact keyeventref03_Decode.mono _ _)
      | (with_reducible exact keyeventref03_Encode.mono _ _ _)
      | (with_reducible exact keyeventref03_Make.mono _ _ _)
      | (with_reducible exact keyeventref03_Open.mono _ _ _)
      | (with_reducible exact keyeventref03_Text.mono _ _)
      | (with_reducible exact primitive_Binary.mono _ _)
      | (with_reducible exact primitive_Decode.mono _ _)
      | (with_reducible exact primitive_Encode.mono _ _ _)
      | (with_reducible exact primitive_Make.mono _ _ _)
      | (with_reducible exact primitive_Open.mono _ _ _)
      | (with_reducible exact primitive_Text.mono _ _)
      | (with_reducible exact LeO.refl _)
      | (with_reducible exact LeO.none _)
      | (with_reducible refine LeO.ite ?_ ?_)
      | (with_reducible refine LeO.bind ?_ (fun _ => ?_))
      | exact ih0 _ _ _ _ _ _ _ _
      | exact ih1 _ _ _ _ _ _ _ _ _ _
      | exact ih2 _ _ _ _ _ _
      | exact ih3 _ _ _ _ _ _ _ _
      | exact ih4 _ _ _ _ _ _ _ _ _ _
      | exact ih5 _ _ _
      | exact keyeventkit_Primitive.mono _ _ _
      | exact keyeventlaw03_awake.mono _
      | exact keyeventref03_Binary.mono _ _
      | exact keyeventref03_Decode.mono _ _
      | exact keyeventref03_Encode.mono _ _ _
      | exact keyeventref03_Make.mono _ _ _
      | exact keyeventref03_Open.mono _ _ _
      | exact keyeventref03_Text.mono _ _
      | exact primitive_Binary.mono _ _
      | exact primitive_Decode.mono _ _
      | exact primitive_Encode.mono _ _ _
      | exact primitive_Make.mono _ _ _
      | exact primitive_Open.mono _ _ _
      | exact primitive_Text.mono _ _
      | exact LeO.none _
      | refine LeO.ite ?_ ?_
      | refine LeO.bind ?_ (fun _ => ?_)
    · intro y0 y1 y2
      unfold keyeventlaw03_PrimitiveActs.l3
      repeat' first
      | (with_reducible exact ih0 _ _ _ _ _ _ _ _)
      | (with_reducible exact ih1 _ _ _ _ _ _ _ _ _ _)
      | (with_reducible exact ih2 _ _ _ _ _ _)
      | (with_reducible exact ih3 _ _ _ _ _ _ _ _)
      | (with_reducible exact ih4 _ _ _ _ _ _ _ _ _ _)
      | (with_reducible exact ih5 _ _ _)
      | (with_reducible exact keyeventkit_Primitive.mono _ _ _)
      | (with_reducible exact keyeventlaw03_awake.mono _)
      | (with_reducible exact keyeventref03_Binary.mono _ _)
      | (with_reducible exact keyeventref03_Decode.mono _ _)
      | (with_reducible exact keyeventref03_Encode.mono _ _ _)
      | (with_reducible exact keyeventref03_Make.mono _ _ _)
      | (with_reducible exact keyeventref03_Open.mono _ _ _)
      | (with_reducible exact keyeventref03_Text.mono _ _)
      | (with_reducible exact primitive_Binary.mono _ _)
      | (with_reducible exact primitive_Decode.mono _ _)
      | (with_reducible exact primitive_Encode.mono _ _ _)
      | (with_reducible exact primitive_Make.mono _ _ _)
      | (with_reducible exact primitive_Open.mono _ _ _)
      | (with_reducible exact primitive_Text.mono _ _)
      | (with_reducible exact LeO.refl _)
      | (with_reducible exact LeO.none _)
      | (with_reducible refine LeO.ite ?_ ?_)
      | (with_reducible refine LeO.bind ?_ (fun _ => ?_))
      | exact ih0 _ _ _ _ _ _ _ _
      | exact ih1 _ _ _ _ _ _ _ _ _ _
      | exact ih2 _ _ _ _ _ _
      | exact ih3 _ _ _ _ _ _ _ _
      | exact ih4 _ _ _ _ _ _ _ _ _ _
      | exact ih5 _ _ _
      | exact keyeventkit_Primitive.mono _ _ _
      | exact keyeventlaw03_awake.mono _
      | exact keyeventref03_Binary.mono _ _
      | exact keyeventref03_Decode.mono _ _
      | exact keyeventref03_Encode.mono _ _ _
      | exact keyeventref03_Make.mono _ _ _
      | exact keyeventref03_Open.mono _ _ _
      | exact keyeventref03_Text.mono _ _
      | exact primitive_Binary.mono _ _
      | exact primitive_Decode.mono _ _
      | exact primitive_Encode.mono _ _ _
      | exact primitive_Make.mono _ _ _
      | exact primitive_Open.mono _ _ _
      | exact primitive_Text.mono _ _
      | exact LeO.none _
      | refine LeO.ite ?_ ?_
      | refine LeO.bind ?_ (fun _ => ?_)
theorem keyeventlaw03_PrimitiveActs.mono : ∀ a0 a1 a2 a3 a4 a5 a6 k, LeO (keyeventlaw03_PrimitiveActs.f k a0 a1 a2 a3 a4 a5 a6) (keyeventlaw03_PrimitiveActs.f (k + 1) a0 a1 a2 a3 a4 a5 a6) := by
  intro a0 a1 a2 a3 a4 a5 a6 k
  obtain ⟨ih0, ih1, ih2, ih3, ih4, ih5⟩ := keyeventlaw03_PrimitiveActs.mono_l k
  unfold keyeventlaw03_PrimitiveActs.f
  repeat' first
      | (with_reducible exact ih0 _ _ _ _ _ _ _ _)
      | (with_reducible exact ih1 _ _ _ _ _ _ _ _ _ _)
      | (with_reducible exact ih2 _ _ _ _ _ _)
      | (with_reducible exact ih3 _ _ _ _ _ _ _ _)
      | (with_reducible exact ih4 _ _ _ _ _ _ _ _ _ _)
      | (with_reducible exact ih5 _ _ _)
      | (with_reducible exact keyeventkit_Primitive.mono _ _ _)
      | (with_reducible exact keyeventlaw03_awake.mono _)
      | (with_reducible exact keyeventref03_Binary.mono _ _)
      | (with_reducible exact keyeventref03_Decode.mono _ _)
      | (with_reducible exact keyeventref03_Encode.mono _ _ _)
      | (with_reducible exact keyeventref03_Make.mono _ _ _)
      | (with_reducible exact keyeventref03_Open.mono _ _ _)
      | (with_reducible exact keyeventref03_Text.mono _ _)
      | (with_reducible exact primitive_Binary.mono _ _)
      | (with_reducible exact primitive_Decode.mono _ _)
      | (with_reducible exact primitive_Encode.mono _ _ _)
      | (with_reducible exact primitive_Make.mono _ _ _)
      | (with_reducible exact primitive_Open.mono _ _ _)
      | (with_reducible exact primitive_Text.mono _ _)
      | (with_reducible exact LeO.refl _)
      | (with_reducible exact LeO.none _)
      | (with_reducible refine LeO.ite ?_ ?_)
      | (with_reducible refine LeO.bind ?_ (fun _ => ?_))
      | exact ih0 _ _ _ _ _ _ _ _
      | exact ih1 _ _ _ _ _ _ _ _ _ _
      | exact ih2 _ _ _ _ _ _
      | exact ih3 _ _ _ _ _ _ _ _
      | exact ih4 _ _ _ _ _ _ _ _ _ _
      | exact ih5 _ _ _
      | exact keyeventkit_Primitive.mono _ _ _
      | exact keyeventlaw03_awake.mono _
      | exact keyeventref03_Binary.mono _ _
      | exact keyeventref03_Decode.mono _ _
      | exact keyeventref03_Encode.mono _ _ _
      | exact keyeventref03_Make.mono _ _ _
      | exact keyeventref03_Open.mono _ _ _
      | exact keyeventref03_Text.mono _ _
      | exact primitive_Binary.mono _ _
      | exact primitive_Decode.mono _ _
      | exact primitive_Encode.mono _ _ _
      | exact primitive_Make.mono _ _ _
      | exact primitive_Open.mono _ _ _
      | exact primitive_Text.mono _ _
      | exact LeO.none _
      | refine LeO.ite ?_ ?_
      | refine LeO.bind ?_ (fun _ => ?_)
end Go.Proofs.Ytgicgdiklinomaa.X
