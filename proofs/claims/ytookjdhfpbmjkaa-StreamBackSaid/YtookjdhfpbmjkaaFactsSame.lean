/- The reference's comparison of lists of groups: a list is the same as itself. Conditions: sizes, and rounds enough. -/
import Derived.Test.YtookjdhfpbmjkaaFacts04
import Derived.Test.YtookjdhfpbmjkaaX10
namespace Go.Proofs.Ytookjdhfpbmjkaa.Pure
open Go.RowKit Go.Proofs.Ytookjdhfpbmjkaa.X Go.Proofs.YtookjdhfpbmjkaaW.PrintWords Go.Proofs.YtookjdhfpbmjkaaW.PrintLast
set_option linter.unusedVariables false
set_option linter.unusedSimpArgs false

theorem same_l1 (l : List GI) (i : Nat) (hi : i < l.length) (hb : l[i].f1.length ≤ 1000000) (k0 : Nat) (H : ∀ k, k0 ≤ k → keyeventref04_Same.l0 k l l (l.length : Int) (wrap64 ((i : Int) + 1)) = some true) (d : Nat) :
    ∀ (j k : Nat), j + d = l[i].f1.length → d + k0 < k → keyeventref04_Same.l1 k l (i : Int) l (l.length : Int) (i : Int) l[i].f1 (l[i].f1.length : Int) (j : Int) = some true := by
  induction d with
  | zero =>
    intro j k hd hk
    obtain ⟨k, rfl⟩ : ∃ m, k = m + 1 := ⟨k - 1, by omega⟩
    simp only [keyeventref04_Same.l1]
    rw [if_neg (by omega)]
    exact H k (by omega)
  | succ d ih =>
    intro j k hd hk
    obtain ⟨k, rfl⟩ : ∃ m, k = m + 1 := ⟨k - 1, by omega⟩
    simp only [keyeventref04_Same.l1]
    rw [rdG_get l i hi, if_pos (by omega), if_pos (by omega), if_pos (by omega), if_pos (by omega), if_pos (by omega), if_pos (by omega), if_neg (by simp)]
    rw [show ((j : Int) + 1) = ((j + 1 : Nat) : Int) by omega, wrap_nat (by omega)]
    exact ih (j + 1) k (by omega) (by omega)
theorem same_l0 (l : List GI) (hl : l.length ≤ 1000000) (hb : totL l ≤ 1000000) (d : Nat) : ∀ (i k : Nat), i + d = l.length → totL (l.drop i) + 3 * d < k →
    keyeventref04_Same.l0 k l l (l.length : Int) (i : Int) = some true := by
  induction d with
  | zero =>
    intro i k hd hk
    obtain ⟨k, rfl⟩ : ∃ m, k = m + 1 := ⟨k - 1, by omega⟩
    simp only [keyeventref04_Same.l0]
    rw [if_neg (by omega)]
  | succ d ih =>
    intro i k hd hk
    obtain ⟨k, rfl⟩ : ∃ m, k = m + 2 := ⟨k - 2, by omega⟩
    have hi : i < l.length := by omega
    have htd := tot_drop l i hi
    have hle := tot_le l[i] (List.getElem_mem hi)
    simp only [keyeventref04_Same.l0]
    rw [rdG_get l i hi, if_pos (by omega), if_pos (by omega), if_pos (by omega), if_pos (by omega), if_pos trivial]
    simp only [keyeventref04_Same.j1]
    rw [if_neg (by simp)]
    exact same_l1 l i hi (by omega) (totL (l.drop (i + 1)) + 3 * d + 1) (fun k hk => by
      rw [show ((i : Int) + 1) = ((i + 1 : Nat) : Int) by omega, wrap_nat (by omega)]
      exact ih (i + 1) k (by omega) (by omega)) l[i].f1.length 0 k (by omega) (by omega)
theorem same_is (l : List GI) (hl : l.length ≤ 1000000) (hb : totL l ≤ 1000000) (k : Nat) (hk : totL l + 3 * l.length < k) : keyeventref04_Same.f k l l = some true := by
  unfold keyeventref04_Same.f
  rw [if_pos rfl]
  exact same_l0 l hl hb l.length 0 k (by omega) (by simpa using hk)
end Go.Proofs.Ytookjdhfpbmjkaa.Pure
