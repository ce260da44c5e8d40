/- A text of groups that is read, also with one byte changed, is written again just so, and a text that is not read is another one than was written. For every list of numbers and every two numbers. -/
import Derived.Test.YtookjdhfpbmjkaaFacts04b
import Derived.Test.YtookjdhfpbmjkaaX10
import Derived.Test.YtookjdhfpbmjkaaX12
import Derived.Test.YtookjdhfpbmjkaaX14
namespace Go.Proofs.Ytookjdhfpbmjkaa.Pure
open Go.RowKit Go.Proofs.Ytookjdhfpbmjkaa.X Go.Proofs.YtookjdhfpbmjkaaW.PrintWords Go.Proofs.YtookjdhfpbmjkaaW.PrintLast
set_option linter.unusedVariables false
set_option linter.unusedSimpArgs false

set_option maxRecDepth 20000 in
theorem StreamOnce : keyeventlaw04_StreamOnce.Pure := by
  intro l a b _ _ _ _ _
  refine ⟨60000, ?_⟩
  unfold keyeventlaw04_StreamOnce.f keyeventkit_Light.f keyeventkit_Roll.f
  rw [awake04 60000 (by omega)]
  simp only [Option.bind_some]
  by_cases hl : l.length ≤ 500
  · rw [if_pos (by simp; omega)]
    obtain ⟨r, j, hg, g1, g2, _, _⟩ := groups_is l hl 0 (by omega) (by omega) 60000 (by omega)
    rw [hg]
    simp only [Option.bind_some]
    rw [encode_is r (by omega) (by omega) 60000 (by omega)]
    simp only [Option.bind_some]
    by_cases he : (encS r).2 = 0
    · rw [if_pos he]
      have hsz := encS_len r
      obtain ⟨x, hx, hxs⟩ := spoil_is (toB (encS r).1) a b (by rw [toB_size]; omega)
      rw [toB_size] at hxs
      rw [hx]
      simp only [Option.bind_some]
      obtain ⟨t, rfl⟩ : ∃ t, x = toB t := ⟨x.data.toList, (toB_of x).symm⟩
      rw [toB_size] at hxs
      rw [decode_is t (by omega) 60000 (by omega)]
      simp only [Option.bind_some]
      by_cases hd : (decS t).2 = 0
      · rw [if_pos hd]
        have hq : decS t = ((decS t).1, 0) := Prod.ext rfl hd
        have hen := encS_decS hq
        have hlen : (decS t).1.length ≤ 5000 ∧ totL (decS t).1 ≤ 4000 := by
          have h1 := encGs_ge (decS t).1
          unfold encS at hen
          by_cases ht : totL (decS t).1 > 1024
          · rw [if_pos ht] at hen; simp at hen
          · rw [if_neg ht] at hen
            by_cases hf : (decS t).1.all folL = true
            · rw [if_pos hf] at hen
              have h2 := h1 (by rw [hen])
              rw [hen] at h2
              simp only at h2
              omega
            · rw [if_neg hf] at hen; simp at hen
        rw [encode_is _ hlen.1 hlen.2 60000 (by omega), hen]
        simp only [Option.bind_some, if_true]
      · rw [if_neg hd, decS_bad hd]
        have hne : ¬ (toB t).toList = (toB (encS r).1).toList := by
          intro h
          rw [ByteArray.toList_eq, ByteArray.toList_eq, toB_data, toB_data] at h
          apply hd
          rw [h, decS_encS (Prod.ext rfl he : encS r = ((encS r).1, 0))]
        rw [if_neg hne]
        simp
    · rw [if_neg he]
  · rw [if_neg (by simp; omega)]
end Go.Proofs.Ytookjdhfpbmjkaa.Pure
