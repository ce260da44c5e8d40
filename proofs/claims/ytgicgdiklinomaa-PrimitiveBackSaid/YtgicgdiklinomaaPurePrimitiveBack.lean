/- A primitive's value comes back from its text, whatever follows it; its text and its binary form are multiples of four characters and of three bytes. For every list of numbers and every string. -/
import Derived.Test.YtgicgdiklinomaaFacts03b
import Derived.Test.YtgicgdiklinomaaFactsKit
import Derived.Test.YtgicgdiklinomaaX16
import Derived.Test.YtgicgdiklinomaaX2
import Derived.Test.YtgicgdiklinomaaX7
namespace Go.Proofs.Ytgicgdiklinomaa.Pure
open Go.RowKit Go.Proofs.Ytgicgdiklinomaa.X Go.Proofs.YtgicgdiklinomaaW.PrintWords Go.Proofs.YtgicgdiklinomaaW.PrintLast
set_option linter.unusedVariables false
set_option linter.unusedSimpArgs false

theorem PrimitiveBack : keyeventlaw03_PrimitiveBack.Pure := by
  intro l a _ _ _ ha
  refine ⟨2000, ?_⟩
  unfold keyeventlaw03_PrimitiveBack.f keyeventkit_Light.f
  simp only [Option.bind_some]
  have haw := awake03
  have main : ∀ b, (b = false → l.length ≤ 500 ∧ a.size ≤ 100) → keyeventlaw03_PrimitiveBack.j0 2000 l a b = some true := by
    intro b hb
    rw [show (2000 : Nat) = 1999 + 1 from rfl]
    simp only [keyeventlaw03_PrimitiveBack.j0]
    rw [haw 1999 (by omega)]
    simp only [Option.bind_some]
    cases b with
    | true => rfl
    | false =>
      obtain ⟨hl, ha2⟩ := hb rfl
      rw [if_neg (by simp)]
      unfold keyeventkit_Roll.f
      simp only [Option.bind_some]
      obtain ⟨c, r, j, hp, hc1, hc2, _, _⟩ := prim_is l hl 0 (by omega) (by omega) 1999 (by omega)
      have hk : formOk c = true := (formOk_iff c).2 ⟨hc1, hc2⟩
      rw [hp]
      simp only [Option.bind_some]
      rw [primitive_Encode_is _ _ 1999 (by omega)]
      simp only [Option.bind_some]
      by_cases he : (encP c r.data.toList).2 = 0
      · rw [if_pos he]
        obtain ⟨_, hr⟩ := encP_ok he
        obtain ⟨f1, f2, f3, f4, f5, f6, f7, f8, f9, f10⟩ := k_facts hk
        obtain ⟨hd, hsz, _⟩ := decP_encP hk hr a.data.toList
        have hs : (toB (encP c r.data.toList).1).size = szN c := by rw [toB_size, hsz]
        rw [if_pos (by rw [hs]; omega), primitive_Decode_is _ 1999 (by omega), data_app, toB_data, hd]
        simp only [Option.bind_some]
        obtain ⟨m, hb1, hb2, hb3⟩ := binary_back hk hr 1999 (by omega)
        rw [hb1]
        simp only [Option.bind_some]
        rw [hb2]
        simp only [Option.bind_some, if_true]
        rw [hs, primitive_Size_is c hk]
        simp only [Option.bind_some, if_true]
        rw [hb3, toB_of]
        rw [fwrap_id (n := (szN c : Int) / 4) (by omega) (by omega), fwrap_id (by omega) (by omega)]
        rw [if_pos (by simp), if_pos (by omega), if_pos (by omega)]
      · rw [if_neg he]
        have : encP c r.data.toList = ([], 8) := by
          unfold encP at he ⊢
          rw [if_pos hk] at he ⊢
          split at he
          · simp at he
          · rename_i h; rw [if_neg h]
        rw [this, ByteArray.toList_eq, toB_data]
        rfl
  by_cases hl : l.length ≤ 500
  · rw [if_pos (by simp; omega)]
    by_cases h : a.size ≤ 100
    · exact main _ (fun _ => ⟨hl, h⟩)
    · have : decide ((a.size : Int) > 100) = true := by simp; omega
      rw [this]
      exact main true (fun h => by cases h)
  · rw [if_neg (by simp; omega)]
    exact main true (fun h => by cases h)
end Go.Proofs.Ytgicgdiklinomaa.Pure
