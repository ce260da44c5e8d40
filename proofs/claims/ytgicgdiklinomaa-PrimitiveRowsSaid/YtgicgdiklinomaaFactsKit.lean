/- What the drawing of inputs gives: numbers, bytes and primitives out of a list of whole numbers. Conditions: the list is as a slice of ints holds it, and each lemma's own. -/
import Derived.Test.YtgicgdiklinomaaPlain
import Derived.Test.YtgicgdiklinomaaX5
import Derived.Test.YtgicgdiklinomaaX6
import Derived.Test.YtgicgdiklinomaaX7
import Derived.Test.YtgicgdiklinomaaX8
namespace Go.Proofs.Ytgicgdiklinomaa.Pure
open Go.RowKit Go.Proofs.Ytgicgdiklinomaa.X Go.Proofs.YtgicgdiklinomaaW.PrintWords Go.Proofs.YtgicgdiklinomaaW.PrintLast
set_option linter.unusedVariables false
set_option linter.unusedSimpArgs false

theorem kwrap_id {n : Int} (h0 : -9223372036854775808 ≤ n) (h1 : n ≤ 9223372036854775807) : wrap64 n = n := by unfold wrap64; omega
theorem mod_is (a n : Int) (hn : 1 ≤ n) (hn2 : n ≤ 4294967296) : keyeventkit_Mod.f a n = some (a % n) := by
  unfold keyeventkit_Mod.f
  rw [if_neg (by omega), if_neg (by omega)]
  have h1 : Int.tmod a n < n := Int.tmod_lt_of_pos a (by omega)
  have h2 : -n < Int.tmod a n := by have := Int.lt_tmod_of_pos a (show 0 < n by omega); omega
  have h3 := Int.mul_tdiv_add_tmod a n
  rw [kwrap_id (by omega) (by omega), Int.tmod_eq_emod_of_nonneg (by omega)]
  congr 1
  rw [Int.add_emod_right]
  conv => rhs; rw [← h3]
  rw [Int.mul_add_emod_self_left]
theorem next_is (l : List Int) (hl : l.length ≤ 500) (i n : Int) (h0 : 0 ≤ i) (h1 : i ≤ l.length) (hn : 1 ≤ n) (hn2 : n ≤ 4294967296) :
    ∃ r j, keyeventkit_Dice_Next.f l i n = some (r, j) ∧ 0 ≤ r ∧ r < n ∧ 0 ≤ j ∧ j ≤ l.length := by
  unfold keyeventkit_Dice_Next.f
  by_cases h : i ≥ (l.length : Int)
  · rw [if_pos h]
    exact ⟨0, i, rfl, by omega, by omega, h0, h1⟩
  · rw [if_neg h, kwrap_id (n := i + 1) (by omega) (by omega), kwrap_id (n := i + 1 - 1) (by omega) (by omega), if_pos (by omega), if_pos (by omega), mod_is _ n hn hn2]
    exact ⟨_, _, rfl, Int.emod_nonneg _ (by omega), Int.emod_lt_of_pos _ (by omega), by omega, by omega⟩
theorem bytes_l0 (l : List Int) (hl : l.length ≤ 500) (d : Nat) : ∀ (k : Nat) (x : List Int) (n i at_ : Int), n - i = d → 0 ≤ i → n ≤ 100 → d < k → x.length = i → 0 ≤ at_ → at_ ≤ l.length →
    ∃ r j, keyeventkit_Dice_Bytes.l0 k x n i l at_ = some (r, j) ∧ (r.size : Int) = n ∧ 0 ≤ j ∧ j ≤ l.length := by
  induction d with
  | zero =>
    intro k x n i at_ hd hi hn hk hx h0 h1
    obtain ⟨k, rfl⟩ : ∃ m, k = m + 1 := ⟨k - 1, by omega⟩
    simp only [keyeventkit_Dice_Bytes.l0]
    rw [if_neg (by omega)]
    exact ⟨_, _, rfl, by rw [strOfNums_eq, toB_size]; simp [numsB]; omega, h0, h1⟩
  | succ d ih =>
    intro k x n i at_ hd hi hn hk hx h0 h1
    obtain ⟨k, rfl⟩ : ∃ m, k = m + 1 := ⟨k - 1, by omega⟩
    obtain ⟨r, j, hr, _, _, hj0, hj1⟩ := next_is l hl at_ 256 h0 h1 (by omega) (by omega)
    simp only [keyeventkit_Dice_Bytes.l0]
    rw [if_pos (by omega), hr]
    simp only [Option.bind_some]
    rw [if_pos (by omega), kwrap_id (by omega) (by omega)]
    exact ih k _ n (i + 1) j (by omega) (by omega) hn (by omega) (by simp; omega) hj0 hj1
theorem bytes_is (l : List Int) (hl : l.length ≤ 500) (k : Nat) (n at_ : Int) (hk : 100 < k) (h : 0 ≤ n) (hn : n ≤ 100) (h0 : 0 ≤ at_) (h1 : at_ ≤ l.length) :
    ∃ r j, keyeventkit_Dice_Bytes.f k l at_ n = some (r, j) ∧ (r.size : Int) = n ∧ 0 ≤ j ∧ j ≤ l.length := by
  unfold keyeventkit_Dice_Bytes.f
  exact bytes_l0 l hl n.toNat k [] n 0 at_ (by omega) (by omega) hn (by omega) rfl h0 h1
theorem refRaw_is (c : Int) (h1 : 1 ≤ c) (h2 : c ≤ 8) : keyeventref03_Raw.f c = some (formRaw c) := by
  have : c = 1 ∨ c = 2 ∨ c = 3 ∨ c = 4 ∨ c = 5 ∨ c = 6 ∨ c = 7 ∨ c = 8 := by omega
  rcases this with rfl | rfl | rfl | rfl | rfl | rfl | rfl | rfl <;> rfl
theorem pad_l0 (d : Nat) : ∀ (k : Nat) (n : Int) (s : ByteArray) (l : List Int) (at_ c : Int) (z : ByteArray), n - s.size ≤ d → (s.size : Int) ≤ n → n ≤ 10000 → d < k →
    ∃ r, keyeventkit_Primitive.l0 k n s l at_ c z = some (c, r, at_) ∧ (r.size : Int) = n := by
  induction d with
  | zero =>
    intro k n s l at_ c z hd hs hn hk
    obtain ⟨k, rfl⟩ : ∃ m, k = m + 1 := ⟨k - 1, by omega⟩
    simp only [keyeventkit_Primitive.l0]
    rw [if_neg (by omega)]
    exact ⟨_, rfl, by omega⟩
  | succ d ih =>
    intro k n s l at_ c z hd hs hn hk
    obtain ⟨k, rfl⟩ : ∃ m, k = m + 1 := ⟨k - 1, by omega⟩
    simp only [keyeventkit_Primitive.l0]
    by_cases h : (s.size : Int) < n
    · rw [if_pos h, if_pos (by omega)]
      have hz : (s ++ (⟨#[7]⟩ : ByteArray)).size = s.size + 1 := by rw [ByteArray.size_append]; rfl
      exact ih k n _ l at_ c z (by omega) (by omega) hn (by omega)
    · rw [if_neg h]
      exact ⟨_, rfl, by omega⟩
theorem formRaw_bd (c : Int) (h1 : 1 ≤ c) (h2 : c ≤ 8) : 2 ≤ formRaw c ∧ formRaw c ≤ 626 := by
  have : c = 1 ∨ c = 2 ∨ c = 3 ∨ c = 4 ∨ c = 5 ∨ c = 6 ∨ c = 7 ∨ c = 8 := by omega
  rcases this with rfl | rfl | rfl | rfl | rfl | rfl | rfl | rfl <;> decide
theorem mn_is (a b : Int) : mn a b = min a b := by unfold mn; omega
theorem prim_j0 (l : List Int) (hl : l.length ≤ 500) (k : Nat) (n at_ c : Int) (z : ByteArray) (hk : 1000 < k) (h : 0 ≤ n) (hn : n ≤ 700) (h0 : 0 ≤ at_) (h1 : at_ ≤ l.length) :
    ∃ r j, keyeventkit_Primitive.j0 k n l at_ c z = some (c, r, j) ∧ 0 ≤ j ∧ j ≤ l.length := by
  obtain ⟨k, rfl⟩ : ∃ m, k = m + 1 := ⟨k - 1, by omega⟩
  obtain ⟨r, j, hr, hs, hj0, hj1⟩ := bytes_is l hl k (mn n 8) at_ (by omega) (by rw [mn_is]; omega) (by rw [mn_is]; omega) h0 h1
  simp only [keyeventkit_Primitive.j0]
  rw [hr]
  simp only [Option.bind_some]
  rw [mn_is] at hs
  obtain ⟨r2, hr2, _⟩ := pad_l0 700 k n r l j c z (by omega) (by omega) (by omega) (by omega)
  exact ⟨r2, j, hr2, hj0, hj1⟩
/-- A primitive is drawn: its code is one of the eight. -/
theorem prim_is (l : List Int) (hl : l.length ≤ 500) (at_ : Int) (h0 : 0 ≤ at_) (h1 : at_ ≤ l.length) (k : Nat) (hk : 1000 < k) :
    ∃ c r j, keyeventkit_Primitive.f k l at_ = some (c, r, j) ∧ 1 ≤ c ∧ c ≤ 8 ∧ 0 ≤ j ∧ j ≤ l.length := by
  obtain ⟨c0, j1, e1, a1, a2, a3, a4⟩ := next_is l hl at_ 8 h0 h1 (by omega) (by omega)
  obtain ⟨m, j2, e2, b1, b2, b3, b4⟩ := next_is l hl j1 12 a3 a4 (by omega) (by omega)
  have hw : wrap64 (1 + c0) = 1 + c0 := kwrap_id (by omega) (by omega)
  have hb := formRaw_bd (1 + c0) (by omega) (by omega)
  unfold keyeventkit_Primitive.f
  rw [e1]
  simp only [Option.bind_some]
  rw [hw, refRaw_is _ (by omega) (by omega)]
  simp only [Option.bind_some]
  rw [e2]
  simp only [Option.bind_some]
  by_cases hm : m = 1
  · rw [if_pos hm]
    obtain ⟨q, j3, e3, d1, d2, d3, d4⟩ := next_is l hl j2 3 b3 b4 (by omega) (by omega)
    rw [e3]
    simp only [Option.bind_some]
    rw [kwrap_id (n := q - 1) (by omega) (by omega), kwrap_id (by omega) (by omega)]
    obtain ⟨r, j, hr, g0, g1⟩ := prim_j0 l hl k (formRaw (1 + c0) + (q - 1)) j3 (1 + c0) ⟨#[]⟩ hk (by omega) (by omega) d3 d4
    exact ⟨_, r, j, hr, by omega, by omega, g0, g1⟩
  · rw [if_neg hm]
    obtain ⟨r, j, hr, g0, g1⟩ := prim_j0 l hl k (formRaw (1 + c0)) j2 (1 + c0) ⟨#[]⟩ hk (by omega) (by omega) b3 b4
    exact ⟨_, r, j, hr, by omega, by omega, g0, g1⟩
theorem spoil_is (s : ByteArray) (a b : Int) (hs : s.size ≤ 4294967296) : ∃ r, keyeventkit_Spoil.f s a b = some r ∧ r.size = s.size := by
  unfold keyeventkit_Spoil.f
  by_cases h : s.toList = []
  · rw [if_pos h]; exact ⟨_, rfl, rfl⟩
  · have hz : s.size ≠ 0 := fun hz => h (by rw [ByteArray.toList_eq]; exact data_nil.2 hz)
    rw [if_neg h, mod_is _ _ (by omega) (by omega)]
    simp only [Option.bind_some]
    have h1 := Int.emod_nonneg a (show (s.size : Int) ≠ 0 by omega)
    have h2 := Int.emod_lt_of_pos a (show (0 : Int) < s.size by omega)
    rw [if_pos ⟨h1, h2⟩]
    exact ⟨_, rfl, by rw [strOfNums_eq, toB_size]; simp [numsB, numsOf]⟩
end Go.Proofs.Ytgicgdiklinomaa.Pure
