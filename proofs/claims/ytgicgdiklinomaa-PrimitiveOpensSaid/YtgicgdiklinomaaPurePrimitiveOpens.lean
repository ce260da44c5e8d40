/- A primitive's text is opened by its own code alone, and not if anything follows or is missing. For every list of numbers and every number. -/
import Derived.Test.YtgicgdiklinomaaFacts03b
import Derived.Test.YtgicgdiklinomaaFactsKit
import Derived.Test.YtgicgdiklinomaaX17
import Derived.Test.YtgicgdiklinomaaX18
import Derived.Test.YtgicgdiklinomaaX2
import Derived.Test.YtgicgdiklinomaaX5
import Derived.Test.YtgicgdiklinomaaX7
namespace Go.Proofs.Ytgicgdiklinomaa.Pure
open Go.RowKit Go.Proofs.Ytgicgdiklinomaa.X Go.Proofs.YtgicgdiklinomaaW.PrintWords Go.Proofs.YtgicgdiklinomaaW.PrintLast
set_option linter.unusedVariables false
set_option linter.unusedSimpArgs false

theorem decP_short {c : Int} (hk : formOk c = true) {raw : List UInt8} (hr : raw.length = rwN c) : decP ((encP c raw).1.take (szN c - 1)) = (0, [], 0, 8) := by
  obtain ⟨f1, f2, f3, f4, f5, f6, f7, f8, f9, f10⟩ := k_facts hk
  have hsz := (decP_encP hk hr []).2.1
  have he : (encP c raw).1 = cdL c ++ (enc (List.replicate (ldN c) 0 ++ raw)).drop (ldN c) := by unfold encP; rw [if_pos hk, if_pos hr]
  have ht : (encP c raw).1.take (szN c - 1) = cdL c ++ ((enc (List.replicate (ldN c) 0 ++ raw)).drop (ldN c)).take (szN c - 1 - (cdL c).length) := by
    rw [he, List.take_append, List.take_of_length_le (by omega)]
  have hc : codeOf (toB ((encP c raw).1.take (szN c - 1))) = c := by rw [ht]; exact codeOf_app hk _
  have h1 := (formOk_iff c).1 hk
  unfold decP
  rw [hc, if_neg (by omega), if_pos (by rw [List.length_take, hsz]; omega)]
theorem PrimitiveOpens : keyeventlaw03_PrimitiveOpens.Pure := by
  intro l a _ _ _ _
  refine ⟨2000, ?_⟩
  unfold keyeventlaw03_PrimitiveOpens.f keyeventkit_Light.f keyeventkit_Roll.f primitive_Make.f
  rw [awake03 2000 (by omega)]
  simp only [Option.bind_some]
  by_cases hl : l.length ≤ 500
  · rw [if_pos (by simp; omega)]
    obtain ⟨c, r, j, hp, hc1, hc2, _, _⟩ := prim_is l hl 0 (by omega) (by omega) 2000 (by omega)
    have hk : formOk c = true := (formOk_iff c).2 ⟨hc1, hc2⟩
    rw [hp]
    simp only [Option.bind_some]
    rw [primitive_Encode_is _ _ 2000 (by omega)]
    simp only [Option.bind_some]
    by_cases hs : (toB (encP c r.data.toList).1).toList = []
    · rw [if_pos hs]
    · rw [if_neg hs]
      have hr : r.data.toList.length = rwN c := by
        rw [ByteArray.toList_eq, toB_data] at hs
        unfold encP at hs
        rw [if_pos hk] at hs
        split at hs
        · assumption
        · simp at hs
      obtain ⟨f1, f2, f3, f4, f5, f6, f7, f8, f9, f10⟩ := k_facts hk
      have hsz := (decP_encP hk hr []).2.1
      have hz : (toB (encP c r.data.toList).1).size = szN c := by rw [toB_size, hsz]
      have h0 := (decP_encP hk hr []).1
      rw [List.append_nil] at h0
      have hA := (decP_encP hk hr [65]).1
      have hm0 := Int.emod_nonneg a (show (8 : Int) ≠ 0 by decide)
      have hm1 := Int.emod_lt_of_pos a (show (0 : Int) < 8 by decide)
      rw [mod_is a 8 (by omega) (by omega)]
      simp only [Option.bind_some]
      rw [fwrap_id (n := 1 + a % 8) (by omega) (by omega), hz, fwrap_id (n := (szN c : Int) - 1) (by omega) (by omega)]
      have o1 : primitive_Open.f 2000 (1 + a % 8) (toB (encP c r.data.toList).1) = some (if c = 1 + a % 8 then (r, 0) else (⟨#[]⟩, 7)) := by
        unfold primitive_Open.f
        rw [primitive_Decode_is _ 2000 (by omega), toB_data, h0, hz]
        simp only [Option.bind_some, if_true]
        split <;> simp [toB_of]
      have o2 : primitive_Open.f 2000 c (toB (encP c r.data.toList).1 ++ (⟨#[65]⟩ : ByteArray)) = some (⟨#[]⟩, 8) := by
        have hz2 : (toB (encP c r.data.toList).1 ++ (⟨#[65]⟩ : ByteArray)).size = szN c + 1 := by rw [ByteArray.size_append, hz]; rfl
        unfold primitive_Open.f
        rw [primitive_Decode_is _ 2000 (by omega), data_app, toB_data, hA, hz2]
        simp only [Option.bind_some, if_true]
        rw [if_neg (by omega)]
      have o3 : primitive_Open.f 2000 c ((toB (encP c r.data.toList).1).extract 0 ((szN c : Int) - 1).toNat) = some (⟨#[]⟩, 8) := by
        unfold primitive_Open.f
        rw [primitive_Decode_is _ 2000 (by omega), data_extract, toB_data, show ((szN c : Int) - 1).toNat = szN c - 1 by omega, List.drop_zero, decP_short hk hr]
        rfl
      rw [o1]
      simp only [Option.bind_some]
      rw [if_pos (by omega), o2]
      simp only [Option.bind_some]
      rw [if_pos (by omega), if_pos (by omega), o3]
      simp only [Option.bind_some]
      by_cases he : c = 1 + a % 8
      · rw [if_pos he]
        rw [if_pos (by simp [he])]
        simp
      · rw [if_neg he]
        have he' : ¬ (1 + a % 8 = c) := fun h => he h.symm
        rw [if_pos (by simp [he'])]
        simp
  · rw [if_neg (by simp; omega)]
end Go.Proofs.Ytgicgdiklinomaa.Pure
