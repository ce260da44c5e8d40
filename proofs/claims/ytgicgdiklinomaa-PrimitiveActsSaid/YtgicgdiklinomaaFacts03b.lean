/- More on primitives: their size, their binary form, opening a text, and the example of chapter 3. Conditions: each lemma's own. -/
import Derived.Test.YtgicgdiklinomaaFacts03
import Derived.Test.YtgicgdiklinomaaX13
import Derived.Test.YtgicgdiklinomaaX5
namespace Go.Proofs.Ytgicgdiklinomaa.Pure
open Go.RowKit Go.Proofs.Ytgicgdiklinomaa.X Go.Proofs.YtgicgdiklinomaaW.PrintWords Go.Proofs.YtgicgdiklinomaaW.PrintLast
set_option linter.unusedVariables false
set_option linter.unusedSimpArgs false

theorem fwrap_id {n : Int} (h0 : -9223372036854775808 ≤ n) (h1 : n ≤ 9223372036854775807) : wrap64 n = n := by unfold wrap64; omega
theorem awake03 (k : Nat) (hk : 700 < k) : keyeventlaw03_awake.f k = some true := by
  unfold keyeventlaw03_awake.f primitive_Make.f
  rw [if_pos (by decide), primitive_Encode_is _ _ k hk, strOfNums_eq, toB_data]
  simp only [Option.bind_some]
  have he : (encP 1 (numsB (List.replicate 32 0))).1 = [69, 65, 65, 65, 65, 65, 65, 65, 65, 65, 65, 65, 65, 65, 65, 65, 65, 65, 65, 65, 65, 65, 65, 65, 65, 65, 65, 65, 65, 65, 65, 65, 65, 65, 65, 65, 65, 65, 65, 65, 65, 65, 65, 65] := by decide +kernel
  rw [he, toB_size, if_pos (by rfl), ByteArray.toList_eq, toB_data]
  rfl
theorem encP_size_le (c : Int) (raw : List UInt8) : (encP c raw).1.length ≤ 836 := by
  unfold encP
  split
  · rename_i h
    split
    · rename_i h2
      have := (decP_encP h h2 []).2.1
      unfold encP at this
      rw [if_pos h, if_pos h2] at this
      obtain ⟨f1, f2, f3, f4, f5, f6, f7, f8, f9, f10⟩ := k_facts h
      omega
    · simp
  · simp
theorem encP_ok {c : Int} {raw : List UInt8} (h : (encP c raw).2 = 0) : formOk c = true ∧ raw.length = rwN c := by
  unfold encP at h
  split at h
  · rename_i h1
    split at h
    · rename_i h2; exact ⟨h1, h2⟩
    · simp at h
  · simp at h
theorem primitive_Size_is (c : Int) (h : formOk c = true) : primitive_Size.f c = some (szN c : Int) := by
  unfold primitive_Size.f
  rw [if_pos h, size_is c h]
theorem vl_digits : ∀ n : Nat, n < 64 → vl (dg n) = some n := fun n h => vl_dg n h
/-- What can be decoded: texts whose characters are digits. -/
theorem dec_all (t : List UInt8) (h : t.length % 4 = 0) (hd : ∀ c ∈ t, (vl c).isSome = true) : (dec t).isSome = true := by
  refine four (P := fun t => (∀ c ∈ t, (vl c).isSome = true) → (dec t).isSome = true) (fun _ => rfl) (fun a b c d r _ ih hd => ?_) t h hd
  have h1 := hd a (by simp)
  have h2 := hd b (by simp)
  have h3 := hd c (by simp)
  have h4 := hd d (by simp)
  have h5 := ih (fun x hx => hd x (by simp [hx]))
  obtain ⟨x1, e1⟩ := Option.isSome_iff_exists.1 h1
  obtain ⟨x2, e2⟩ := Option.isSome_iff_exists.1 h2
  obtain ⟨x3, e3⟩ := Option.isSome_iff_exists.1 h3
  obtain ⟨x4, e4⟩ := Option.isSome_iff_exists.1 h4
  obtain ⟨x5, e5⟩ := Option.isSome_iff_exists.1 h5
  simp [dec, e1, e2, e3, e4, e5]
theorem enc_digits (l : List UInt8) (h : l.length % 3 = 0) : ∀ c ∈ enc l, (vl c).isSome = true := by
  refine three (P := fun l => ∀ c ∈ enc l, (vl c).isSome = true) (by simp [enc]) (fun a b c r _ ih => ?_) l h
  have ha := a.toNat_lt
  have hb := b.toNat_lt
  have hc := c.toNat_lt
  intro x hx
  simp only [enc, List.mem_cons] at hx
  rcases hx with rfl | rfl | rfl | rfl | hx
  · rw [vl_dg _ (by omega)]; rfl
  · rw [vl_dg _ (by omega)]; rfl
  · rw [vl_dg _ (by omega)]; rfl
  · rw [vl_dg _ (by omega)]; rfl
  · exact ih x hx
theorem code_digits {k : Int} (h : formOk k = true) : ∀ c ∈ cdL k, (vl c).isSome = true := by
  rcases k_cases h with rfl | rfl | rfl | rfl | rfl | rfl | rfl | rfl <;> decide +kernel
theorem encP_digits {k : Int} (hk : formOk k = true) {raw : List UInt8} (hr : raw.length = rwN k) : (∀ c ∈ (encP k raw).1, (vl c).isSome = true) ∧ (encP k raw).1.length % 4 = 0 := by
  obtain ⟨f1, f2, f3, f4, f5, f6, f7, f8, f9, f10⟩ := k_facts hk
  refine ⟨?_, by rw [(decP_encP hk hr []).2.1]; exact f5⟩
  unfold encP
  rw [if_pos hk, if_pos hr]
  intro c hc
  rcases List.mem_append.1 hc with h | h
  · exact code_digits hk c h
  · exact enc_digits _ (by simp [hr]; omega) c (List.mem_of_mem_drop h)
/-- Any text of digits, cut in fours, goes into its binary form and back. -/
theorem binary_text (t : List UInt8) (h4 : t.length % 4 = 0) (hd : ∀ c ∈ t, (vl c).isSome = true) (hl : t.length ≤ 80000) (k : Nat) (hk : 90000 < k) :
    ∃ m : List UInt8, primitive_Binary.f k (toB t) = some (toB m, 0) ∧ primitive_Text.f k (toB m) = some (toB t, 0) ∧ m.length = t.length / 4 * 3 := by
  obtain ⟨m, hm⟩ := Option.isSome_iff_exists.1 (dec_all t h4 hd)
  obtain ⟨e1, e2⟩ := enc_dec t h4 m hm
  have e3 := dec_len t h4 m hm
  refine ⟨m, ?_, ?_, e3⟩
  · unfold primitive_Binary.f
    rw [base64_Decode_is _ k (by rw [toB_size]; omega), toB_size, if_neg (by omega), if_pos h4, toB_data, hm]
    rfl
  · unfold primitive_Text.f
    rw [base64_Encode_is _ k (by rw [toB_size]; omega), toB_size, if_neg (by omega), if_pos e2, toB_data, e1]
    rfl
theorem binary_back {c : Int} (hk : formOk c = true) {raw : List UInt8} (hr : raw.length = rwN c) (k : Nat) (hk2 : 900 < k) :
    ∃ m : ByteArray, primitive_Binary.f k (toB (encP c raw).1) = some (m, 0) ∧ primitive_Text.f k m = some (toB (encP c raw).1, 0) ∧ m.size = szN c / 4 * 3 := by
  obtain ⟨h1, h4⟩ := encP_digits hk hr
  obtain ⟨f1, f2, f3, f4, f5, f6, f7, f8, f9, f10⟩ := k_facts hk
  have hsz := (decP_encP hk hr []).2.1
  obtain ⟨m, hm⟩ := Option.isSome_iff_exists.1 (dec_all _ h4 h1)
  obtain ⟨e1, e2⟩ := enc_dec _ h4 m hm
  have e3 := dec_len _ h4 m hm
  rw [hsz] at e3
  refine ⟨toB m, ?_, ?_, by rw [toB_size, e3]⟩
  · unfold primitive_Binary.f
    rw [base64_Decode_is _ k (by rw [toB_size]; omega), toB_size, if_neg (by omega), if_pos h4, toB_data, hm]
    rfl
  · unfold primitive_Text.f
    rw [base64_Encode_is _ k (by rw [toB_size]; omega), toB_size, if_neg (by omega), if_pos e2, toB_data, e1]
    rfl
end Go.Proofs.Ytgicgdiklinomaa.Pure
