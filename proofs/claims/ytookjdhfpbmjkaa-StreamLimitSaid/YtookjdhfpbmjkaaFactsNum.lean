/- Two digits: the program's number of two digits of 64, for all 4096 numbers, and a lemma on rounds. No conditions beyond rounds enough. -/
import Derived.Test.YtookjdhfpbmjkaaPlain
import Derived.Test.YtookjdhfpbmjkaaX2
namespace Go.Proofs.Ytookjdhfpbmjkaa.Pure
open Go.RowKit Go.Proofs.Ytookjdhfpbmjkaa.X Go.Proofs.YtookjdhfpbmjkaaW.PrintWords Go.Proofs.YtookjdhfpbmjkaaW.PrintLast
set_option linter.unusedVariables false
set_option linter.unusedSimpArgs false

theorem lift {α : Type} {f : Nat → Option α} (hm : ∀ k, LeO (f k) (f (k + 1))) {k m : Nat} {r : α} (h : f k = some r) (hkm : k ≤ m) : f m = some r := by
  obtain ⟨d, rfl⟩ : ∃ d, m = k + d := ⟨m - k, by omega⟩
  clear hkm
  induction d with
  | zero => exact h
  | succ d ih => exact hm _ _ ih
theorem number2_all : ∀ a b : Fin 64, base64_Number.f 6 ((a.1 * 64 + b.1 : Nat) : Int) 2 = some (toB [dg a.1, dg b.1], 0) := by decide +kernel
theorem number2_is {n : Nat} (h : n < 4096) {k : Nat} (hk : 6 ≤ k) : base64_Number.f k (n : Int) 2 = some (toB [dg (n / 64), dg (n % 64)], 0) := by
  have h1 := number2_all ⟨n / 64, by omega⟩ ⟨n % 64, by omega⟩
  simp only at h1
  rw [show n / 64 * 64 + n % 64 = n by omega] at h1
  exact lift (f := fun k => base64_Number.f k (n : Int) 2) (fun k => base64_Number.mono _ _ k) h1 hk
end Go.Proofs.Ytookjdhfpbmjkaa.Pure
