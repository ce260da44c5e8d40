/- Texts of digits, cut in fours, go into their binary form and back. Conditions: each lemma's own. -/
import Derived.Test.YtookjdhfpbmjkaaFacts03
import Derived.Test.YtookjdhfpbmjkaaX13
namespace Go.Proofs.Ytookjdhfpbmjkaa.Pure
open Go.RowKit Go.Proofs.Ytookjdhfpbmjkaa.X Go.Proofs.YtookjdhfpbmjkaaW.PrintWords Go.Proofs.YtookjdhfpbmjkaaW.PrintLast
set_option linter.unusedVariables false
set_option linter.unusedSimpArgs false

theorem vl_digits : ∀ n : Nat, n < 64 → vl (dg n) = some n := fun n h => vl_dg n h
/-- What can be decoded: texts whose characters are digits. -/
theorem dec_all (t : List UInt8) (h : t.length % 4 = 0) (hd : ∀ c ∈ t, (vl c).isSome = true) : (dec t).isSome = true := by
  refine four (P := fun t => (∀ c ∈ t, (vl c).isSome = true) → (dec t).isSome = true) (fun _ => rfl) (fun a b c d r _ ih hd => ?_) t h hd
  have h1 := hd a (by simp)
  have h2 := hd b (by simp)
  have h3 := hd c (by simp)
  have h4 := hd d (by simp)
  have h5 := ih (fun x hx => hd x (by simp [hx]))
  obtain ⟨x1, e1⟩ := Option.isSome_iff_exists.1 h1
  obtain ⟨x2, e2⟩ := Option.isSome_iff_exists.1 h2
  obtain ⟨x3, e3⟩ := Option.isSome_iff_exists.1 h3
  obtain ⟨x4, e4⟩ := Option.isSome_iff_exists.1 h4
  obtain ⟨x5, e5⟩ := Option.isSome_iff_exists.1 h5
  simp [dec, e1, e2, e3, e4, e5]
theorem enc_digits (l : List UInt8) (h : l.length % 3 = 0) : ∀ c ∈ enc l, (vl c).isSome = true := by
  refine three (P := fun l => ∀ c ∈ enc l, (vl c).isSome = true) (by simp [enc]) (fun a b c r _ ih => ?_) l h
  have ha := a.toNat_lt
  have hb := b.toNat_lt
  have hc := c.toNat_lt
  intro x hx
  simp only [enc, List.mem_cons] at hx
  rcases hx with rfl | rfl | rfl | rfl | hx
  · rw [vl_dg _ (by omega)]; rfl
  · rw [vl_dg _ (by omega)]; rfl
  · rw [vl_dg _ (by omega)]; rfl
  · rw [vl_dg _ (by omega)]; rfl
  · exact ih x hx
theorem code_digits {k : Int} (h : formOk k = true) : ∀ c ∈ cdL k, (vl c).isSome = true := by
  rcases k_cases h with rfl | rfl | rfl | rfl | rfl | rfl | rfl | rfl <;> decide +kernel
theorem encP_digits {k : Int} (hk : formOk k = true) {raw : List UInt8} (hr : raw.length = rwN k) : (∀ c ∈ (encP k raw).1, (vl c).isSome = true) ∧ (encP k raw).1.length % 4 = 0 := by
  obtain ⟨f1, f2, f3, f4, f5, f6, f7, f8, f9, f10⟩ := k_facts hk
  refine ⟨?_, by rw [(decP_encP hk hr []).2.1]; exact f5⟩
  unfold encP
  rw [if_pos hk, if_pos hr]
  intro c hc
  rcases List.mem_append.1 hc with h | h
  · exact code_digits hk c h
  · exact enc_digits _ (by simp [hr]; omega) c (List.mem_of_mem_drop h)
/-- Any text of digits, cut in fours, goes into its binary form and back. -/
theorem binary_text (t : List UInt8) (h4 : t.length % 4 = 0) (hd : ∀ c ∈ t, (vl c).isSome = true) (hl : t.length ≤ 80000) (k : Nat) (hk : 90000 < k) :
    ∃ m : List UInt8, primitive_Binary.f k (toB t) = some (toB m, 0) ∧ primitive_Text.f k (toB m) = some (toB t, 0) ∧ m.length = t.length / 4 * 3 := by
  obtain ⟨m, hm⟩ := Option.isSome_iff_exists.1 (dec_all t h4 hd)
  obtain ⟨e1, e2⟩ := enc_dec t h4 m hm
  have e3 := dec_len t h4 m hm
  refine ⟨m, ?_, ?_, e3⟩
  · unfold primitive_Binary.f
    rw [base64_Decode_is _ k (by rw [toB_size]; omega), toB_size, if_neg (by omega), if_pos h4, toB_data, hm]
    rfl
  · unfold primitive_Text.f
    rw [base64_Encode_is _ k (by rw [toB_size]; omega), toB_size, if_neg (by omega), if_pos e2, toB_data, e1]
    rfl
end Go.Proofs.Ytookjdhfpbmjkaa.Pure
