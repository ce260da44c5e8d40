/- What the drawing of inputs gives: numbers and bytes out of a list of whole numbers, and a string with one byte changed. Conditions: the list is as a slice of ints holds it, and each lemma's own. -/
import Derived.Test.YtookjdhfpbmjkaaPlain
import Derived.Test.YtookjdhfpbmjkaaX11
namespace Go.Proofs.Ytookjdhfpbmjkaa.Pure
open Go.RowKit Go.Proofs.Ytookjdhfpbmjkaa.X Go.Proofs.YtookjdhfpbmjkaaW.PrintWords Go.Proofs.YtookjdhfpbmjkaaW.PrintLast
set_option linter.unusedVariables false
set_option linter.unusedSimpArgs false

theorem kwrap_id {n : Int} (h0 : -9223372036854775808 ≤ n) (h1 : n ≤ 9223372036854775807) : wrap64 n = n := by unfold wrap64; omega
theorem mod_is (a n : Int) (hn : 1 ≤ n) (hn2 : n ≤ 4294967296) : keyeventkit_Mod.f a n = some (a % n) := by
  unfold keyeventkit_Mod.f
  rw [if_neg (by omega), if_neg (by omega)]
  have h1 : Int.tmod a n < n := Int.tmod_lt_of_pos a (by omega)
  have h2 : -n < Int.tmod a n := by have := Int.lt_tmod_of_pos a (show 0 < n by omega); omega
  have h3 := Int.mul_tdiv_add_tmod a n
  rw [kwrap_id (by omega) (by omega), Int.tmod_eq_emod_of_nonneg (by omega)]
  congr 1
  rw [Int.add_emod_right]
  conv => rhs; rw [← h3]
  rw [Int.mul_add_emod_self_left]
theorem next_is (l : List Int) (hl : l.length ≤ 500) (i n : Int) (h0 : 0 ≤ i) (h1 : i ≤ l.length) (hn : 1 ≤ n) (hn2 : n ≤ 4294967296) :
    ∃ r j, keyeventkit_Dice_Next.f l i n = some (r, j) ∧ 0 ≤ r ∧ r < n ∧ 0 ≤ j ∧ j ≤ l.length := by
  unfold keyeventkit_Dice_Next.f
  by_cases h : i ≥ (l.length : Int)
  · rw [if_pos h]
    exact ⟨0, i, rfl, by omega, by omega, h0, h1⟩
  · rw [if_neg h, kwrap_id (n := i + 1) (by omega) (by omega), kwrap_id (n := i + 1 - 1) (by omega) (by omega), if_pos (by omega), if_pos (by omega), mod_is _ n hn hn2]
    exact ⟨_, _, rfl, Int.emod_nonneg _ (by omega), Int.emod_lt_of_pos _ (by omega), by omega, by omega⟩
theorem bytes_l0 (l : List Int) (hl : l.length ≤ 500) (d : Nat) : ∀ (k : Nat) (x : List Int) (n i at_ : Int), n - i = d → 0 ≤ i → n ≤ 100 → d < k → x.length = i → 0 ≤ at_ → at_ ≤ l.length →
    ∃ r j, keyeventkit_Dice_Bytes.l0 k x n i l at_ = some (r, j) ∧ (r.size : Int) = n ∧ 0 ≤ j ∧ j ≤ l.length := by
  induction d with
  | zero =>
    intro k x n i at_ hd hi hn hk hx h0 h1
    obtain ⟨k, rfl⟩ : ∃ m, k = m + 1 := ⟨k - 1, by omega⟩
    simp only [keyeventkit_Dice_Bytes.l0]
    rw [if_neg (by omega)]
    exact ⟨_, _, rfl, by rw [strOfNums_eq, toB_size]; simp [numsB]; omega, h0, h1⟩
  | succ d ih =>
    intro k x n i at_ hd hi hn hk hx h0 h1
    obtain ⟨k, rfl⟩ : ∃ m, k = m + 1 := ⟨k - 1, by omega⟩
    obtain ⟨r, j, hr, _, _, hj0, hj1⟩ := next_is l hl at_ 256 h0 h1 (by omega) (by omega)
    simp only [keyeventkit_Dice_Bytes.l0]
    rw [if_pos (by omega), hr]
    simp only [Option.bind_some]
    rw [if_pos (by omega), kwrap_id (by omega) (by omega)]
    exact ih k _ n (i + 1) j (by omega) (by omega) hn (by omega) (by simp; omega) hj0 hj1
theorem bytes_is (l : List Int) (hl : l.length ≤ 500) (k : Nat) (n at_ : Int) (hk : 100 < k) (h : 0 ≤ n) (hn : n ≤ 100) (h0 : 0 ≤ at_) (h1 : at_ ≤ l.length) :
    ∃ r j, keyeventkit_Dice_Bytes.f k l at_ n = some (r, j) ∧ (r.size : Int) = n ∧ 0 ≤ j ∧ j ≤ l.length := by
  unfold keyeventkit_Dice_Bytes.f
  exact bytes_l0 l hl n.toNat k [] n 0 at_ (by omega) (by omega) hn (by omega) rfl h0 h1
theorem refRaw_is (c : Int) (h1 : 1 ≤ c) (h2 : c ≤ 8) : keyeventref03_Raw.f c = some (formRaw c) := by
  have : c = 1 ∨ c = 2 ∨ c = 3 ∨ c = 4 ∨ c = 5 ∨ c = 6 ∨ c = 7 ∨ c = 8 := by omega
  rcases this with rfl | rfl | rfl | rfl | rfl | rfl | rfl | rfl <;> rfl
end Go.Proofs.Ytookjdhfpbmjkaa.Pure
