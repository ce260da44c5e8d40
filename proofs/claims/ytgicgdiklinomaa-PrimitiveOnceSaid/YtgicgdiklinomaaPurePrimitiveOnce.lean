/- A text of a primitive that is read, also with one byte changed, is written again just so, and a text that is not read is another one than was written. For every list of numbers and every two numbers. -/
import Derived.Test.YtgicgdiklinomaaFacts03
import Derived.Test.YtgicgdiklinomaaFactsKit
import Derived.Test.YtgicgdiklinomaaX13
import Derived.Test.YtgicgdiklinomaaX2
import Derived.Test.YtgicgdiklinomaaX5
import Derived.Test.YtgicgdiklinomaaX7
namespace Go.Proofs.Ytgicgdiklinomaa.Pure
open Go.RowKit Go.Proofs.Ytgicgdiklinomaa.X Go.Proofs.YtgicgdiklinomaaW.PrintWords Go.Proofs.YtgicgdiklinomaaW.PrintLast
set_option linter.unusedVariables false
set_option linter.unusedSimpArgs false

theorem awake03 (k : Nat) (hk : 700 < k) : keyeventlaw03_awake.f k = some true := by
  unfold keyeventlaw03_awake.f primitive_Make.f
  rw [if_pos (by decide), primitive_Encode_is _ _ k hk, strOfNums_eq, toB_data]
  simp only [Option.bind_some]
  have he : (encP 1 (numsB (List.replicate 32 0))).1 = [69, 65, 65, 65, 65, 65, 65, 65, 65, 65, 65, 65, 65, 65, 65, 65, 65, 65, 65, 65, 65, 65, 65, 65, 65, 65, 65, 65, 65, 65, 65, 65, 65, 65, 65, 65, 65, 65, 65, 65, 65, 65, 65, 65] := by decide +kernel
  rw [he, toB_size, if_pos (by rfl), ByteArray.toList_eq, toB_data]
  rfl
theorem encP_size_le (c : Int) (raw : List UInt8) : (encP c raw).1.length ≤ 836 := by
  unfold encP
  split
  · rename_i h
    split
    · rename_i h2
      have := (decP_encP h h2 []).2.1
      unfold encP at this
      rw [if_pos h, if_pos h2] at this
      obtain ⟨f1, f2, f3, f4, f5, f6, f7, f8, f9, f10⟩ := k_facts h
      omega
    · simp
  · simp
theorem encP_ok {c : Int} {raw : List UInt8} (h : (encP c raw).2 = 0) : formOk c = true ∧ raw.length = rwN c := by
  unfold encP at h
  split at h
  · rename_i h1
    split at h
    · rename_i h2; exact ⟨h1, h2⟩
    · simp at h
  · simp at h
theorem PrimitiveOnce : keyeventlaw03_PrimitiveOnce.Pure := by
  intro l a b _ _ _ _ _
  refine ⟨2000, ?_⟩
  unfold keyeventlaw03_PrimitiveOnce.f keyeventkit_Light.f keyeventkit_Roll.f
  rw [awake03 2000 (by omega)]
  simp only [Option.bind_some]
  by_cases hl : l.length ≤ 500
  · rw [if_pos (by simp; omega)]
    obtain ⟨c, r, j, hp, hc1, hc2, _, _⟩ := prim_is l hl 0 (by omega) (by omega) 2000 (by omega)
    rw [hp]
    simp only [Option.bind_some]
    rw [primitive_Encode_is _ _ 2000 (by omega)]
    simp only [Option.bind_some]
    by_cases he : (encP c r.data.toList).2 = 0
    · rw [if_pos he]
      obtain ⟨ho, hr⟩ := encP_ok he
      have hsz := encP_size_le c r.data.toList
      obtain ⟨x, hx, hxs⟩ := spoil_is (toB (encP c r.data.toList).1) a b (by rw [toB_size]; omega)
      rw [toB_size] at hxs
      rw [hx]
      simp only [Option.bind_some]
      rw [primitive_Decode_is x 2000 (by omega)]
      simp only [Option.bind_some]
      by_cases hd : (decP x.data.toList).2.2.2 = 0
      · rw [if_pos hd]
        have hq : decP x.data.toList = ((decP x.data.toList).1, (decP x.data.toList).2.1, (decP x.data.toList).2.2.1, 0) := by
          conv => lhs; rw [show decP x.data.toList = ((decP x.data.toList).1, (decP x.data.toList).2.1, (decP x.data.toList).2.2.1, (decP x.data.toList).2.2.2) from rfl, hd]
        obtain ⟨_, _, hn, hle, hen⟩ := encP_decP hq
        rw [primitive_Encode_is _ _ 2000 (by omega), toB_data]
        simp only [Option.bind_some]
        rw [hen, hn]
        rw [data_len] at hle
        simp only [Int.toNat_natCast]
        rw [if_pos trivial, if_pos (by omega), if_pos (by omega), if_pos]
        rw [ByteArray.toList_eq, ByteArray.toList_eq, toB_data, data_extract]
        simp
      · rw [if_neg hd]
        obtain ⟨e, hb, _, _⟩ := decP_bad hd
        rw [hb]
        have hne : ¬ x.toList = (toB (encP c r.data.toList).1).toList := by
          intro h
          rw [ByteArray.toList_eq, ByteArray.toList_eq, toB_data] at h
          apply hd
          rw [h]
          have := (decP_encP ho hr []).1
          rw [List.append_nil] at this
          rw [this]
        rw [if_neg hne]
        simp
    · rw [if_neg he]
  · rw [if_neg (by simp; omega)]
end Go.Proofs.Ytgicgdiklinomaa.Pure
