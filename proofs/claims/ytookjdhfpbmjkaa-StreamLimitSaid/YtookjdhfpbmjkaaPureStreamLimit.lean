/- About the greatest number of primitives: 1024 are written, 1026 are not. For each of the two ways that the parameter tells. -/
import Derived.Test.YtookjdhfpbmjkaaFacts04b
import Derived.Test.YtookjdhfpbmjkaaX0
import Derived.Test.YtookjdhfpbmjkaaX10
import Derived.Test.YtookjdhfpbmjkaaX15
import Derived.Test.YtookjdhfpbmjkaaX16
import Derived.Test.YtookjdhfpbmjkaaX17
import Derived.Test.YtookjdhfpbmjkaaX18
import Derived.Test.YtookjdhfpbmjkaaX19
import Derived.Test.YtookjdhfpbmjkaaX20
import Derived.Test.YtookjdhfpbmjkaaX6
import Derived.Test.YtookjdhfpbmjkaaX7
import Derived.Test.YtookjdhfpbmjkaaX8
import Derived.Test.YtookjdhfpbmjkaaX9
namespace Go.Proofs.Ytookjdhfpbmjkaa.Pure
open Go.RowKit Go.Proofs.Ytookjdhfpbmjkaa.X Go.Proofs.YtookjdhfpbmjkaaW.PrintWords Go.Proofs.YtookjdhfpbmjkaaW.PrintLast
set_option linter.unusedVariables false
set_option linter.unusedSimpArgs false


theorem same_l1 (l : List GI) (i : Nat) (hi : i < l.length) (hb : l[i].f1.length ≤ 1000000) (k0 : Nat) (H : ∀ k, k0 ≤ k → keyeventref04_Same.l0 k l l (l.length : Int) (wrap64 ((i : Int) + 1)) = some true) (d : Nat) :
    ∀ (j k : Nat), j + d = l[i].f1.length → d + k0 < k → keyeventref04_Same.l1 k l (i : Int) l (l.length : Int) (i : Int) l[i].f1 (l[i].f1.length : Int) (j : Int) = some true := by
  induction d with
  | zero =>
    intro j k hd hk
    obtain ⟨k, rfl⟩ : ∃ m, k = m + 1 := ⟨k - 1, by omega⟩
    simp only [keyeventref04_Same.l1]
    rw [if_neg (by omega)]
    exact H k (by omega)
  | succ d ih =>
    intro j k hd hk
    obtain ⟨k, rfl⟩ : ∃ m, k = m + 1 := ⟨k - 1, by omega⟩
    simp only [keyeventref04_Same.l1]
    rw [rdG_get l i hi, if_pos (by omega), if_pos (by omega), if_pos (by omega), if_pos (by omega), if_pos (by omega), if_pos (by omega), if_neg (by simp)]
    rw [show ((j : Int) + 1) = ((j + 1 : Nat) : Int) by omega, wrap_nat (by omega)]
    exact ih (j + 1) k (by omega) (by omega)
theorem same_l0 (l : List GI) (hl : l.length ≤ 1000000) (hb : totL l ≤ 1000000) (d : Nat) : ∀ (i k : Nat), i + d = l.length → totL (l.drop i) + 3 * d < k →
    keyeventref04_Same.l0 k l l (l.length : Int) (i : Int) = some true := by
  induction d with
  | zero =>
    intro i k hd hk
    obtain ⟨k, rfl⟩ : ∃ m, k = m + 1 := ⟨k - 1, by omega⟩
    simp only [keyeventref04_Same.l0]
    rw [if_neg (by omega)]
  | succ d ih =>
    intro i k hd hk
    obtain ⟨k, rfl⟩ : ∃ m, k = m + 2 := ⟨k - 2, by omega⟩
    have hi : i < l.length := by omega
    have htd := tot_drop l i hi
    have hle := tot_le l[i] (List.getElem_mem hi)
    simp only [keyeventref04_Same.l0]
    rw [rdG_get l i hi, if_pos (by omega), if_pos (by omega), if_pos (by omega), if_pos (by omega), if_pos trivial]
    simp only [keyeventref04_Same.j1]
    rw [if_neg (by simp)]
    exact same_l1 l i hi (by omega) (totL (l.drop (i + 1)) + 3 * d + 1) (fun k hk => by
      rw [show ((i : Int) + 1) = ((i + 1 : Nat) : Int) by omega, wrap_nat (by omega)]
      exact ih (i + 1) k (by omega) (by omega)) l[i].f1.length 0 k (by omega) (by omega)
theorem same_is (l : List GI) (hl : l.length ≤ 1000000) (hb : totL l ≤ 1000000) (k : Nat) (hk : totL l + 3 * l.length < k) : keyeventref04_Same.f k l l = some true := by
  unfold keyeventref04_Same.f
  rw [if_pos rfl]
  exact same_l0 l hl hb l.length 0 k (by omega) (by simpa using hk)

theorem renc_l0 (l : List UInt8) (hl : l.length ≤ 65536) (h3 : l.length % 3 = 0) (d : Nat) : ∀ (k i : Nat) (x4 : List Int), l.length - i = d → i ≤ l.length → i % 3 = 0 → d < k → x4.length + 2 * d ≤ 140737488355000 →
    keyeventref01_Encode.l0 k (toB l) x4 (i : Int) = some (toB (numsB x4 ++ enc (l.drop i)), 0) := by
  induction d using Nat.strongRecOn with
  | _ d ih =>
  intro k i x4 hd hi hi3 hk hx
  obtain ⟨k, rfl⟩ : ∃ m, k = m + 1 := ⟨k - 1, by omega⟩
  by_cases he : i = l.length
  · subst he
    simp only [keyeventref01_Encode.l0]
    rw [if_neg (by rw [toB_size]; omega), List.drop_length]
    simp [enc, strOfNums_eq]
  · have hlt : i + 2 < l.length := by omega
    have e0 : (i : Int) = ((i : Nat) : Int) := rfl
    have hd1 : l.drop i = l[i] :: l[i + 1] :: l[i + 2] :: l.drop (i + 3) := by
      rw [List.drop_eq_getElem_cons (by omega), List.drop_eq_getElem_cons (by omega), List.drop_eq_getElem_cons (by omega)]
    have w1 : wrap64 ((i : Int) + 1) = ((i + 1 : Nat) : Int) := by rw [wrap_id (by omega) (by omega)]; omega
    have w2 : wrap64 ((i : Int) + 2) = ((i + 2 : Nat) : Int) := by rw [wrap_id (by omega) (by omega)]; omega
    have w3 : wrap64 ((i : Int) + 3) = ((i + 3 : Nat) : Int) := by rw [wrap_id (by omega) (by omega)]; omega
    have b0 : bt (toB l) (i : Int) = ((l[i]).toNat : Int) := by rw [byteAt]; simp [List.getD, show i < l.length by omega]
    have b1 : bt (toB l) ((i + 1 : Nat) : Int) = ((l[i + 1]).toNat : Int) := by rw [byteAt]; simp [List.getD, show i + 1 < l.length by omega]
    have b2 : bt (toB l) ((i + 2 : Nat) : Int) = ((l[i + 2]).toNat : Int) := by rw [byteAt]; simp [List.getD, show i + 2 < l.length by omega]
    have hs : ((toB l).size : Int) = l.length := by rw [toB_size]
    have hj := join3 l[i] l[i + 1] l[i + 2]
    simp only [keyeventref01_Encode.l0]
    rw [w1, w2, w3, b0, b1, b2, hj, hs]
    have hn1 := small3 l[i] l[i + 1] l[i + 2]
    rw [hd1]
    clear b0 b1 b2 hj
    obtain ⟨n, hn⟩ : ∃ n, (l[i]).toNat * 65536 + (l[i + 1]).toNat * 256 + (l[i + 2]).toNat = n := ⟨_, rfl⟩
    rw [hn] at hn1 ⊢
    rw [cut1 n hn1, cut2 n hn1, cut3 n hn1, cut4 n hn1]
    rw [if_pos (by omega), if_pos (by omega), if_pos (by omega), if_pos (by omega), if_pos (by omega), if_pos (by omega), if_pos (natI _), if_pos (natL (lt64a n hn1)), if_pos (natI _), if_pos (natL (lt64b _)), if_pos (natI _), if_pos (natL (lt64b _)), if_pos (natI _), if_pos (natL (lt64b _))]
    rw [alpha_at _ (lt64a n hn1), alpha_at _ (lt64b _), alpha_at _ (lt64b _), alpha_at _ (lt64b _)]
    simp only [Option.bind_some]
    rw [if_pos (by simp only [List.length_cons, List.length_nil]; omega)]
    rw [ih (l.length - (i + 3)) (by omega) k (i + 3) _ rfl (by omega) (by omega) (by omega) (by simp only [List.length_append, List.length_cons, List.length_nil]; omega)]
    rw [numsB_app, List.append_assoc]
    simp only [numsB, List.map_cons, List.map_nil, ofNat_toNat_int, List.cons_append, List.nil_append, enc, hn]
theorem ref01_Encode_is (s : ByteArray) (k : Nat) (hk : s.size < k) : keyeventref01_Encode.f k s = some (if s.size > 65536 then (⟨#[]⟩, 3) else if s.size % 3 = 0 then (toB (enc s.data.toList), 0) else (⟨#[]⟩, 8)) := by
  unfold keyeventref01_Encode.f
  by_cases h1 : s.size > 65536
  · rw [if_pos (by omega), if_pos h1]
  · rw [if_neg (by omega), if_neg h1]
    by_cases h2 : s.size % 3 = 0
    · rw [if_pos (by omega), if_pos h2]
      have hl : s.data.toList.length = s.size := data_len s
      have := renc_l0 s.data.toList (by omega) (by rw [hl]; exact h2) s.size k 0 [] (by omega) (by omega) (by omega) hk (by simp only [List.length_nil]; omega)
      rw [toB_of] at this
      exact this
    · rw [if_neg (by omega), if_neg h2]
theorem rvalue_all : ∀ m : Fin 256, keyeventref01_Value.f 70 (m.1 : Int) = some (match vl (UInt8.ofNat m.1) with | none => (0, false) | some n => ((n : Int), true)) := by decide +kernel
theorem rvalue_is (c : UInt8) (k : Nat) (hk : 70 ≤ k) : keyeventref01_Value.f k (c.toNat : Int) = some (match vl c with | none => (0, false) | some n => ((n : Int), true)) := by
  have h0 := rvalue_all ⟨c.toNat, c.toNat_lt⟩
  simp only [UInt8.ofNat_toNat] at h0
  obtain ⟨m, rfl⟩ : ∃ m, k = 70 + m := ⟨k - 70, by omega⟩
  clear hk
  induction m with
  | zero => exact h0
  | succ m ih => exact keyeventref01_Value.mono _ _ _ ih
theorem rdec_step (l : List UInt8) (hl : l.length ≤ 131072) (x4 : List Int) (i j acc k : Nat) (hj : j < 4) (hi : i + j < l.length) (hk : 70 ≤ k) (ha : acc < 64 ^ j) :
    keyeventref01_Decode.l1 (k + 1) (toB l) x4 (i : Int) (acc : Int) (j : Int) = (match vl l[i + j] with | none => some (⟨#[]⟩, 4) | some x => keyeventref01_Decode.l1 k (toB l) x4 (i : Int) ((acc * 64 + x : Nat) : Int) ((j + 1 : Nat) : Int)) := by
  simp only [keyeventref01_Decode.l1]
  have w1 : wrap64 ((i : Int) + (j : Int)) = ((i + j : Nat) : Int) := by rw [wrap_id (by omega) (by omega)]; omega
  have w2 : wrap64 ((j : Int) + 1) = ((j + 1 : Nat) : Int) := by rw [wrap_id (by omega) (by omega)]; omega
  have b0 : bt (toB l) ((i + j : Nat) : Int) = ((l[i + j]).toNat : Int) := by rw [byteAt]; simp [List.getD, hi]
  rw [w1, w2, b0, if_pos (by omega), if_pos (by omega), if_pos (by rw [toB_size]; omega), rvalue_is _ k hk]
  simp only [Option.bind_some]
  cases hv : vl l[i + j] with
  | none => simp
  | some x =>
    obtain ⟨hx, _⟩ := vl_some hv
    simp only [if_true]
    rw [or6 acc x j (by omega) ha hx]
theorem rdec_l0 (l : List UInt8) (hl : l.length ≤ 131072) (h4 : l.length % 4 = 0) (d : Nat) : ∀ (k i : Nat) (x4 : List Int), l.length - i = d → i ≤ l.length → i % 4 = 0 → 2 * d + 80 < k → x4.length + 2 * d ≤ 140737488355000 →
    keyeventref01_Decode.l0 k (toB l) x4 (i : Int) = some (match dec (l.drop i) with | none => (⟨#[]⟩, 4) | some m => (toB (numsB x4 ++ m), 0)) := by
  induction d using Nat.strongRecOn with
  | _ d ih =>
  intro k i x4 hd hi hi4 hk hx
  obtain ⟨k, rfl⟩ : ∃ m, k = m + 1 := ⟨k - 1, by omega⟩
  by_cases he : i = l.length
  · subst he
    simp only [keyeventref01_Decode.l0]
    rw [if_neg (by rw [toB_size]; omega), List.drop_length]
    simp [dec, strOfNums_eq]
  · have hlt : i + 3 < l.length := by omega
    have hd1 : l.drop i = l[i] :: l[i + 1] :: l[i + 2] :: l[i + 3] :: l.drop (i + 4) := by
      rw [List.drop_eq_getElem_cons (by omega), List.drop_eq_getElem_cons (by omega), List.drop_eq_getElem_cons (by omega), List.drop_eq_getElem_cons (by omega)]
    obtain ⟨k, rfl⟩ : ∃ m, k = m + 5 := ⟨k - 5, by omega⟩
    simp only [keyeventref01_Decode.l0]
    rw [if_pos (by rw [toB_size]; omega), hd1, dec_cons, num4]
    have s0 := rdec_step l hl x4 i 0 0 (k + 4) (by omega) (by omega) (by omega) (by simp)
    simp only [Nat.add_zero, Nat.zero_mul, Nat.zero_add, Int.natCast_zero] at s0
    have s0' : keyeventref01_Decode.l1 (k + 5) (toB l) x4 (i : Int) 0 0 = _ := s0
    rw [s0']
    clear s0 s0'
    cases h0 : vl l[i] with
    | none => simp
    | some a =>
      have ha := (vl_some h0).1
      simp only [Option.bind_some]
      rw [rdec_step l hl x4 i 1 a (k + 3) (by omega) (by omega) (by omega) (by simpa using ha)]
      cases h1 : vl l[i + 1] with
      | none => simp
      | some b =>
        have hb := (vl_some h1).1
        simp only [Option.bind_some]
        rw [rdec_step l hl x4 i 2 (a * 64 + b) (k + 2) (by omega) (by omega) (by omega) (by omega)]
        cases h2 : vl l[i + 2] with
        | none => simp
        | some c =>
          have hc := (vl_some h2).1
          simp only [Option.bind_some]
          rw [rdec_step l hl x4 i 3 ((a * 64 + b) * 64 + c) (k + 1) (by omega) (by omega) (by omega) (by omega)]
          cases h3 : vl l[i + 3] with
          | none => simp
          | some e =>
            have he := (vl_some h3).1
            simp only [Option.bind_some]
            obtain ⟨n, hn⟩ : ∃ n, ((a * 64 + b) * 64 + c) * 64 + e = n := ⟨_, rfl⟩
            have hn1 : n < 16777216 := by omega
            have hn2 : a * 262144 + b * 4096 + c * 64 + e = n := by omega
            rw [hn, hn2]
            simp only [keyeventref01_Decode.l1]
            have w3 : wrap64 ((i : Int) + 4) = ((i + 4 : Nat) : Int) := by rw [wrap_id (by omega) (by omega)]; omega
            rw [if_neg (by omega), w3]
            simp only [Option.bind_some]
            rw [if_pos (by simp only [List.length_cons, List.length_nil]; omega), ih (l.length - (i + 4)) (by omega) k (i + 4) _ rfl (by omega) (by omega) (by omega) (by simp only [List.length_append, List.length_cons, List.length_nil]; omega)]
            rw [numsB_app, cutI n hn1]
            cases dec (l.drop (i + 4)) <;> simp
theorem ref01_Decode_is (s : ByteArray) (k : Nat) (hk : 2 * s.size + 80 < k) : keyeventref01_Decode.f k s = some (if s.size > 131072 then ((⟨#[]⟩ : ByteArray), (3 : Int)) else if s.size % 4 = 0 then (match dec s.data.toList with | none => (⟨#[]⟩, 4) | some m => (toB m, 0)) else (⟨#[]⟩, 8)) := by
  unfold keyeventref01_Decode.f
  by_cases h1 : s.size > 131072
  · rw [if_pos (by omega), if_pos h1]
  · rw [if_neg (by omega), if_neg h1]
    by_cases h2 : s.size % 4 = 0
    · rw [if_pos (by omega), if_pos h2]
      have hl : s.data.toList.length = s.size := data_len s
      have := rdec_l0 s.data.toList (by omega) (by rw [hl]; exact h2) s.size k 0 [] (by omega) (by omega) (by omega) hk (by simp only [List.length_nil]; omega)
      rw [toB_of] at this
      exact this
    · rw [if_neg (by omega), if_neg h2]

/-! ### Primitives -/
theorem rcode_is (c : Int) : keyeventref03_Code.f c = some (formCode c, formOk c) := by
  by_cases h : 1 ≤ c ∧ c ≤ 8
  · have : c = 1 ∨ c = 2 ∨ c = 3 ∨ c = 4 ∨ c = 5 ∨ c = 6 ∨ c = 7 ∨ c = 8 := by omega
    rcases this with rfl | rfl | rfl | rfl | rfl | rfl | rfl | rfl <;> rfl
  · have h1 : formOk c = false := by
      cases hk : formOk c with
      | false => rfl
      | true => exact absurd ((formOk_iff c).1 hk) h
    have h2 : formCode c = ⟨#[]⟩ := by
      unfold formCode
      rw [if_neg (by omega), if_neg (by omega), if_neg (by omega), if_neg (by omega), if_neg (by omega), if_neg (by omega), if_neg (by omega), if_neg (by omega)]
    unfold keyeventref03_Code.f
    rw [h1, h2]
    by_cases h3 : c < 1
    · rw [if_pos h3]
    · rw [if_neg h3, if_pos (by omega)]
theorem rraw_is (c : Int) : keyeventref03_Raw.f c = some (formRaw c) := by
  by_cases h : 1 ≤ c ∧ c ≤ 8
  · have : c = 1 ∨ c = 2 ∨ c = 3 ∨ c = 4 ∨ c = 5 ∨ c = 6 ∨ c = 7 ∨ c = 8 := by omega
    rcases this with rfl | rfl | rfl | rfl | rfl | rfl | rfl | rfl <;> rfl
  · have h2 : formRaw c = 0 := by
      unfold formRaw
      rw [if_neg (by omega), if_neg (by omega), if_neg (by omega), if_neg (by omega), if_neg (by omega), if_neg (by omega), if_neg (by omega), if_neg (by omega)]
    unfold keyeventref03_Raw.f
    rw [h2]
    by_cases h3 : c < 1
    · rw [if_pos h3]
    · rw [if_neg h3, if_pos (by omega)]
theorem rlead_is (c : Int) (h : formOk c = true) : keyeventref03_lead.f c = some (ldN c : Int) := by
  rcases k_cases h with rfl | rfl | rfl | rfl | rfl | rfl | rfl | rfl <;> decide +kernel
theorem rsize_is (c : Int) : keyeventref03_Size.f c = some (if formOk c = true then (szN c : Int) else 0) := by
  by_cases h : formOk c = true
  · rw [if_pos h]
    rcases k_cases h with rfl | rfl | rfl | rfl | rfl | rfl | rfl | rfl <;> decide +kernel
  · rw [if_neg h]
    unfold keyeventref03_Size.f
    rw [rcode_is]
    simp only [Option.bind_some]
    rw [if_neg h]
theorem zeros_cut (n : Nat) (h : n ≤ 2) : (⟨#[0, 0]⟩ : ByteArray).extract 0 ((n : Int)).toNat = toB (List.replicate n 0) := by
  rcases (show n = 0 ∨ n = 1 ∨ n = 2 by omega) with rfl | rfl | rfl <;> rfl
theorem as_cut (n : Nat) (h : n ≤ 2) : (⟨#[65, 65]⟩ : ByteArray).extract 0 ((n : Int)).toNat = toB (List.replicate n 65) := by
  rcases (show n = 0 ∨ n = 1 ∨ n = 2 by omega) with rfl | rfl | rfl <;> rfl
theorem ref03_Encode_is (c : Int) (raw : ByteArray) (k : Nat) (hk : 700 < k) : keyeventref03_Encode.f k c raw = some (toB (encP c raw.data.toList).1, (encP c raw.data.toList).2) := by
  unfold keyeventref03_Encode.f encP
  rw [rcode_is, rraw_is]
  simp only [Option.bind_some]
  by_cases h1 : formOk c = true
  · obtain ⟨f1, f2, f3, f4, f5, f6, f7, f8, f9, f10⟩ := k_facts h1
    rw [if_pos h1, if_pos h1]
    by_cases h2 : raw.size = rwN c
    · rw [if_pos (by rw [raw_nat]; omega), if_pos (by rw [data_len]; exact h2), rlead_is c h1]
      simp only [Option.bind_some]
      rw [if_pos (by omega), if_pos (by omega), zeros_cut _ f1]
      have hl : (List.replicate (ldN c) (0 : UInt8) ++ raw.data.toList).length = ldN c + rwN c := by simp [h2]
      have hj : toB (List.replicate (ldN c) 0) ++ raw = toB (List.replicate (ldN c) 0 ++ raw.data.toList) := by rw [← toB_app, toB_of]
      rw [if_pos (by rw [toB_size]; simp; omega), hj, ref01_Encode_is _ k (by rw [toB_size, hl]; omega)]
      have hz : (toB (List.replicate (ldN c) 0 ++ raw.data.toList)).size = ldN c + rwN c := by rw [toB_size, hl]
      have h3 : (List.replicate (ldN c) (0 : UInt8) ++ raw.data.toList).length % 3 = 0 := by rw [hl]; omega
      have hel := enc_len _ h3
      rw [hl] at hel
      rw [if_neg (by rw [hz]; omega), if_pos (by rw [hz]; omega)]
      simp only [Option.bind_some, toB_data, Int.toNat_natCast]
      have hes : (toB (enc (List.replicate (ldN c) 0 ++ raw.data.toList))).size = (ldN c + rwN c) / 3 * 4 := by rw [toB_size, hel]
      have hx : (toB (enc (List.replicate (ldN c) 0 ++ raw.data.toList))).extract (ldN c) (toB (enc (List.replicate (ldN c) 0 ++ raw.data.toList))).size = toB ((enc (List.replicate (ldN c) 0 ++ raw.data.toList)).drop (ldN c)) := by
        rw [extract_toB, toB_data, toB_size, List.take_length]
      rw [hx]
      rw [if_pos (by rw [hes]; omega), if_pos (by rw [code_size, toB_size, List.length_drop, hel]; omega), code_toB, toB_app]
    · rw [if_neg (by rw [raw_nat]; omega), if_neg (by rw [data_len]; exact h2)]
      rfl
  · rw [if_neg h1, if_neg h1]
    rfl
theorem rpre (t : ByteArray) (c : Int) : isPre t (formCode c) = true ↔ (cdL c).length ≤ t.size ∧ t.data.toList.take (cdL c).length = cdL c := by
  unfold isPre
  rw [List.isPrefixOf_iff_prefix, List.prefix_iff_eq_take]
  constructor
  · intro h
    have h2 : (t.data.toList.take (cdL c).length) = cdL c := h.symm
    refine ⟨?_, h2⟩
    have := congrArg List.length h2
    rw [List.length_take, data_len] at this
    omega
  · rintro ⟨_, h⟩
    exact h.symm
/-- The look at one code. -/
theorem rlook (t : ByteArray) (c : Int) (hk : formOk c = true) (k : Nat) : keyeventref03_Decode.l0 (k + 1) t c = keyeventref03_Decode.j1 k t c (formCode c) (!(isPre t (formCode c))) := by
  have hc := (formOk_iff c).1 hk
  simp only [keyeventref03_Decode.l0]
  rw [if_pos (by omega), rcode_is]
  simp only [Option.bind_some]
  rw [code_size]
  have hp := rpre t c
  by_cases h1 : t.size < (cdL c).length
  · rw [if_pos (by omega)]
    have : isPre t (formCode c) = false := by
      cases hq : isPre t (formCode c) with
      | false => rfl
      | true => have := (hp.1 hq).1; omega
    rw [this]
    rfl
  · rw [if_neg (by omega), if_pos (by omega), if_pos (by omega)]
    congr 1
    rw [Int.toNat_natCast, extract_toB, List.drop_zero, ByteArray.toList_eq, toB_data, ByteArray.toList_eq]
    by_cases h2 : isPre t (formCode c) = true
    · rw [h2, (hp.1 h2).2]
      simp [cdL]
    · have h3 : ¬ (t.data.toList.take (cdL c).length = (formCode c).data.toList) := fun h => h2 (hp.2 ⟨by omega, h⟩)
      have h4 : isPre t (formCode c) = false := by simpa using h2
      rw [h4]
      simpa using h3
theorem rskip (t : ByteArray) (c : Int) (hk : formOk c = true) (hn : isPre t (formCode c) = false) (k : Nat) : keyeventref03_Decode.l0 (k + 2) t c = keyeventref03_Decode.l0 k t (c + 1) := by
  have hc := (formOk_iff c).1 hk
  rw [rlook t c hk, hn]
  simp only [keyeventref03_Decode.j1, Bool.not_false, if_true]
  rw [wrap_id (by omega) (by omega)]
theorem rskips (t : ByteArray) (n : Nat) : ∀ (c : Int) (k : Nat), 1 ≤ c → c + n ≤ 9 → (∀ x : Int, c ≤ x → x < c + n → isPre t (formCode x) = false) → keyeventref03_Decode.l0 (k + 2 * n) t c = keyeventref03_Decode.l0 k t (c + n) := by
  induction n with
  | zero => intro c k _ _ _; simp
  | succ n ih =>
    intro c k h1 h2 h3
    have := rskip t c ((formOk_iff c).2 ⟨h1, by omega⟩) (h3 c (by omega) (by omega)) (k + 2 * n)
    rw [show k + 2 * (n + 1) = k + 2 * n + 2 by omega, this, ih (c + 1) k (by omega) (by omega) (fun x hx hy => h3 x (by omega) (by omega))]
    rw [show c + 1 + (n : Int) = c + ((n + 1 : Nat) : Int) by omega]
theorem ref03_Decode_is (t : ByteArray) (k : Nat) (hk : 3000 < k) : keyeventref03_Decode.f k t = some ((decP t.data.toList).1, toB (decP t.data.toList).2.1, (decP t.data.toList).2.2.1, (decP t.data.toList).2.2.2) := by
  unfold keyeventref03_Decode.f decP
  rw [toB_of]
  rcases codeOf_is t with ⟨h0, hn⟩ | ⟨h1, hp⟩
  · rw [if_pos h0]
    obtain ⟨k, rfl⟩ : ∃ m, k = m + 1 + 2 * 8 := ⟨k - 17, by omega⟩
    rw [rskips t 8 1 (k + 1) (by omega) (by omega) (fun x hx hy => hn x hx (by omega))]
    simp only [keyeventref03_Decode.l0]
    rw [if_neg (by omega)]
    rfl
  · have hc := (formOk_iff _).1 h1
    rw [if_neg (by omega)]
    obtain ⟨n, hn⟩ : ∃ n : Nat, codeOf t = 1 + (n : Int) := ⟨(codeOf t - 1).toNat, by omega⟩
    obtain ⟨k, rfl⟩ : ∃ m, k = m + 2 + 2 * n := ⟨k - 2 - 2 * n, by omega⟩
    rw [rskips t n 1 (k + 2) (by omega) (by omega) (fun x hx hy => by
      cases hq : isPre t (formCode x) with
      | false => rfl
      | true => have := codeOf_pre t x hx (by omega) hq; omega), ← hn, rlook t _ h1, hp]
    obtain ⟨f1, f2, f3, f4, f5, f6, f7, f8, f9, f10⟩ := k_facts h1
    simp only [keyeventref03_Decode.j1, Bool.not_true]
    rw [if_neg (by simp), rsize_is, if_pos h1, rlead_is _ h1]
    simp only [Option.bind_some]
    rw [code_size, data_len]
    have hk' : 2900 < k := by omega
    clear hk hp hn hc
    generalize codeOf t = c at *
    by_cases h2 : t.size < szN c
    · rw [if_pos (by omega), if_pos h2]
      rfl
    · rw [if_neg (by omega), if_neg h2, if_pos (by omega), if_pos (by omega), if_pos (by omega), if_pos (by omega), if_pos (by omega), as_cut _ f1, zeros_cut _ f1]
      simp only [Int.toNat_natCast]
      have hx : t.extract (cdL c).length (szN c) = toB ((t.data.toList.take (szN c)).drop (cdL c).length) := extract_toB _ _ _
      have hxl : ((t.data.toList.take (szN c)).drop (cdL c).length).length = szN c - (cdL c).length := by simp; omega
      rw [hx, toB_app, if_pos (by rw [toB_size, toB_size, hxl]; simp; omega)]
      have hz : (toB (List.replicate (ldN c) 65 ++ (t.data.toList.take (szN c)).drop (cdL c).length)).size = ldN c + (szN c - (cdL c).length) := by rw [toB_size, List.length_append, hxl]; simp
      rw [ref01_Decode_is _ k (by rw [hz]; omega), if_neg (by rw [hz]; omega), if_pos (by rw [hz]; omega), toB_data]
      have h4 : (List.replicate (ldN c) (65 : UInt8) ++ (t.data.toList.take (szN c)).drop (cdL c).length).length % 4 = 0 := by
        rw [List.length_append, List.length_replicate, hxl]; omega
      cases hd : dec (List.replicate (ldN c) 65 ++ (t.data.toList.take (szN c)).drop (cdL c).length) with
      | none =>
        simp only [Option.bind_some]
        rw [if_neg (by omega)]
        rfl
      | some all =>
        have e3 := dec_len _ h4 _ hd
        rw [List.length_append, List.length_replicate, hxl] at e3
        simp only [Option.bind_some, if_true]
        rw [if_pos (by rw [toB_size]; omega)]
        have hcut : (toB all).extract 0 (ldN c) = toB (all.take (ldN c)) := by rw [extract_toB, toB_data, List.drop_zero]
        rw [hcut, ByteArray.toList_eq, ByteArray.toList_eq, toB_data, toB_data]
        by_cases hp : (List.replicate (ldN c) (0 : UInt8)).isPrefixOf all = true
        · rw [if_pos hp]
          rw [List.isPrefixOf_iff_prefix, List.prefix_iff_eq_take, List.length_replicate] at hp
          rw [if_pos hp.symm]
          simp only [extract_toB, toB_data, toB_size, List.take_length]
        · rw [if_neg hp]
          rw [List.isPrefixOf_iff_prefix, List.prefix_iff_eq_take, List.length_replicate] at hp
          rw [if_neg (fun h => hp h.symm)]
          rfl

theorem rpermitted_is (c : Int) (k : Nat) (hk : 1 ≤ k) : keyeventref04_Permitted.f k c = some (patOf c) := by
  obtain ⟨k, rfl⟩ : ∃ m, k = m + 1 := ⟨k - 1, by omega⟩
  unfold keyeventref04_Permitted.f patOf
  simp only [keyeventref04_Permitted.j0]
  by_cases h1 : c = 1
  · subst h1; rfl
  by_cases h2 : c = 2
  · subst h2; rfl
  by_cases h3 : c = 3
  · subst h3; rfl
  by_cases h4 : c = 4
  · subst h4; rfl
  rw [if_neg h1, if_neg (by simpa using h2), if_neg h3, if_neg h4, if_neg h1, if_neg h2, if_neg h3, if_neg h4]
theorem rnumber2_all : ∀ a b : Fin 64, keyeventref01_Number.f 6 ((a.1 * 64 + b.1 : Nat) : Int) 2 = some (toB [dg a.1, dg b.1], 0) := by decide +kernel
theorem rnumber2_is {n : Nat} (h : n < 4096) {k : Nat} (hk : 6 ≤ k) : keyeventref01_Number.f k (n : Int) 2 = some (toB [dg (n / 64), dg (n % 64)], 0) := by
  have h1 := rnumber2_all ⟨n / 64, by omega⟩ ⟨n % 64, by omega⟩
  simp only at h1
  rw [show n / 64 * 64 + n % 64 = n by omega] at h1
  exact lift (f := fun k => keyeventref01_Number.f k (n : Int) 2) (fun k => keyeventref01_Number.mono _ _ k) h1 hk
theorem mark_letters (c : Int) (hc : kndOk c = true) : ((⟨#[45]⟩ : ByteArray) ++ (⟨#[63, 65, 66, 67, 71]⟩ : ByteArray).extract (c : Int).toNat ((wrap64 (c + 1)) : Int).toNat) = toB [45, UInt8.ofNat (letterOf c).toNat] := by
  rcases knd_cases hc with rfl | rfl | rfl | rfl <;> decide +kernel
theorem rmark_is {c : Int} (hc : kndOk c = true) {n : Nat} (h : n < 4096) {k : Nat} (hk : 6 ≤ k) : keyeventref04_Mark.f k c (n : Int) = some (toB (markL c n), 0) := by
  unfold keyeventref04_Mark.f
  rw [rpermitted_is c k (by omega), rnumber2_is h hk]
  simp only [Option.bind_some]
  have hp : 0 < (patOf c).length := List.length_pos_iff.2 (pat_pos hc)
  have e0 : ¬ ((patOf c).length : Int) = 0 := by omega
  have e1 : ¬ ((n : Int) < 0) := by omega
  have e2 : ¬ ((n : Int) > 4095) := by omega
  have hs : (toB [dg (n / 64), dg (n % 64)]).size = 2 := toB_size _
  rw [if_neg e0, if_neg e1, if_neg e2]
  rcases knd_cases hc with rfl | rfl | rfl | rfl
  all_goals
    rw [if_pos (by decide), if_pos (by decide +kernel), if_pos (by decide +kernel), if_pos (by decide +kernel)]
    have hs2 : ∀ b : ByteArray, b.size = 2 → b.size + (toB [dg (n / 64), dg (n % 64)]).size ≤ 9223372036854775807 := fun b hb => by rw [hb, hs]; decide
    rw [if_pos (hs2 _ (by decide +kernel)), mark_letters _ rfl, toB_app]
    rfl
/-! ### Following a pattern -/
theorem rfollows_l0 (p : List Int) (hp : p ≠ []) (l : List PI) (hl : l.length ≤ 1000000) (d : Nat) : ∀ (i k : Nat), i + d = l.length → d < k →
    ∃ b, keyeventref04_follows.l0 k p l (l.length : Int) (i : Int) = some b ∧ (b = true ↔ ∀ j : Nat, i ≤ j → j < l.length → (rd_T27 l (j : Int)).f0 = p.getD (j % p.length) 0) := by
  have h0 : 0 < p.length := List.length_pos_iff.2 hp
  induction d with
  | zero =>
    intro i k hd hk
    obtain ⟨k, rfl⟩ : ∃ m, k = m + 1 := ⟨k - 1, by omega⟩
    simp only [keyeventref04_follows.l0]
    rw [if_neg (by omega)]
    exact ⟨true, rfl, fun _ j h1 h2 => by omega, fun _ => rfl⟩
  | succ d ih =>
    intro i k hd hk
    obtain ⟨k, rfl⟩ : ∃ m, k = m + 1 := ⟨k - 1, by omega⟩
    simp only [keyeventref04_follows.l0]
    have hm : Int.tmod (i : Int) (p.length : Int) = ((i % p.length : Nat) : Int) := by
      rw [Int.tmod_eq_emod_of_nonneg (by omega)]; omega
    have hlt := Nat.mod_lt i h0
    rw [if_pos (by omega), if_pos (by omega), if_pos (by omega), if_neg (by omega), hm, if_pos (by omega), if_pos (by omega)]
    have hr : rd p ((i % p.length : Nat) : Int) = p.getD (i % p.length) 0 := by unfold rd; rw [Int.toNat_natCast]
    rw [hr, show ((i : Int) + 1) = ((i + 1 : Nat) : Int) by omega, wrap_nat (by omega)]
    by_cases he : (rd_T27 l (i : Int)).f0 = p.getD (i % p.length) 0
    · obtain ⟨b, hb, hbi⟩ := ih (i + 1) k (by omega) (by omega)
      rw [if_pos he]
      refine ⟨b, hb, hbi.trans ⟨fun h j h1 h2 => ?_, fun h j h1 h2 => h j (by omega) h2⟩⟩
      rcases Nat.eq_or_lt_of_le h1 with rfl | h1
      · exact he
      · exact h j h1 h2
    · rw [if_neg he]
      refine ⟨false, rfl, fun h => by simp at h, fun h => ?_⟩
      exact absurd (h i (by omega) (by omega)) he
theorem rfollows_is (g : GI) (hl : g.f1.length ≤ 1000000) (k : Nat) (hk : g.f1.length + 1 < k) : keyeventref04_follows.f k g.f0 g.f1 = some (folL g) := by
  obtain ⟨k, rfl⟩ : ∃ m, k = m + 1 := ⟨k - 1, by omega⟩
  unfold keyeventref04_follows.f folL cntOf
  rw [rpermitted_is _ _ (by omega)]
  simp only [Option.bind_some]
  by_cases hp : patOf g.f0 = []
  · rw [hp, if_pos (by rfl)]
    simp only [keyeventref04_follows.j0]
    rw [if_pos trivial]
    rfl
  · have h0 : 0 < (patOf g.f0).length := List.length_pos_iff.2 hp
    rw [if_neg (by omega)]
    simp only [keyeventref04_follows.j0]
    have hfi := fol_iff (patOf g.f0) hp g.f1
    by_cases hm : g.f1.length % (patOf g.f0).length = 0
    · have hb : (((g.f1.length : Int) % ((patOf g.f0).length : Int)) != 0) = false := by
        rw [bne_eq_false_iff_eq]; omega
      rw [hb, if_neg (by simp)]
      obtain ⟨b, hb, hbi⟩ := rfollows_l0 _ hp _ hl g.f1.length 0 k (by omega) (by omega)
      rw [show (0 : Int) = ((0 : Nat) : Int) from rfl, hb]
      congr 1
      rw [Bool.eq_iff_iff, decide_eq_true_iff, hfi, hbi]
      exact ⟨fun h => ⟨hp, hm, fun j hj => h j (Nat.zero_le _) hj⟩, fun h j _ hj => h.2.2 j hj⟩
    · have hb : (((g.f1.length : Int) % ((patOf g.f0).length : Int)) != 0) = true := by
        rw [bne_iff_ne]; omega
      rw [hb, if_pos rfl]
      congr 1
      symm
      apply decide_eq_false
      rintro ⟨_, h⟩
      exact hm (hfi.1 h).1
/-! ### Writing -/
theorem rencode_l3 (l : List GI) (i : Nat) (hi : i < l.length) (k0 : Nat) (hk0 : 701 ≤ k0) (hl : l[i].f1.length ≤ 5000) (H : ∀ (out : List UInt8) (k : Nat), k0 ≤ k → out.length + 1000 * (totL (l.drop (i + 1)) + (l.drop (i + 1)).length) ≤ 100000000 → keyeventref04_Encode.l2 k (toB out) l (l.length : Int) (wrap64 ((i : Int) + 1)) = some (outE out (encGs (l.drop (i + 1)))))
    (d : Nat) : ∀ (out : List UInt8) (j k : Nat), j + d = l[i].f1.length → d + k0 < k → out.length + 1000 * (d + totL (l.drop (i + 1)) + (l.drop (i + 1)).length) ≤ 100000000 →
    keyeventref04_Encode.l3 k (toB out) l (l.length : Int) (i : Int) l[i].f1 (l[i].f1.length : Int) (j : Int) = some (contE out (encIs (l[i].f1.drop j)) (encGs (l.drop (i + 1)))) := by
  induction d with
  | zero =>
    intro out j k hd hk hb
    obtain ⟨k, rfl⟩ : ∃ m, k = m + 1 := ⟨k - 1, by omega⟩
    simp only [keyeventref04_Encode.l3]
    rw [if_neg (by omega), List.drop_of_length_le (by omega), H out k (by omega) (by omega)]
    simp [encIs, contE]
  | succ d ih =>
    intro out j k hd hk hb
    obtain ⟨k, rfl⟩ : ∃ m, k = m + 1 := ⟨k - 1, by omega⟩
    simp only [keyeventref04_Encode.l3]
    have hj : j < l[i].f1.length := by omega
    rw [if_pos (by omega), if_pos (by omega), if_pos (by omega), rdT_get _ j hj, ref03_Encode_is _ _ k (by omega), List.drop_eq_getElem_cons hj]
    simp only [Option.bind_some]
    have hsz := encP_size_le (l[i].f1[j]).f0 (l[i].f1[j]).f1.data.toList
    have he : encIs (l[i].f1[j] :: l[i].f1.drop (j + 1)) = if (encI (l[i].f1[j])).2 = 0 then (if (encIs (l[i].f1.drop (j + 1))).2 = 0 then ((encI (l[i].f1[j])).1 ++ (encIs (l[i].f1.drop (j + 1))).1, 0) else ([], (encIs (l[i].f1.drop (j + 1))).2)) else ([], (encI (l[i].f1[j])).2) := rfl
    change (if (encI (l[i].f1[j])).2 = 0 then _ else _) = _
    by_cases h0 : (encI (l[i].f1[j])).2 = 0
    · rw [if_pos h0] at he
      rw [if_pos h0]
      have hb2 : (toB out).size + (toB (encP (l[i].f1[j]).f0 (l[i].f1[j]).f1.data.toList).1).size ≤ 9223372036854775807 := by rw [toB_size, toB_size]; omega
      rw [if_pos hb2, toB_app, show ((j : Int) + 1) = ((j + 1 : Nat) : Int) by omega, wrap_nat (by omega), ih _ (j + 1) k (by omega) (by omega) (by rw [List.length_append]; omega)]
      by_cases h1 : (encIs (l[i].f1.drop (j + 1))).2 = 0
      · rw [if_pos h1] at he
        rw [he]
        unfold contE
        rw [if_pos h1, if_pos rfl, List.append_assoc]
        rfl
      · rw [if_neg h1] at he
        rw [he]
        unfold contE
        rw [if_neg h1, if_neg h1]
    · rw [if_neg h0] at he
      rw [if_neg h0, he]
      unfold contE
      rw [if_neg h0]
      rfl
set_option maxRecDepth 20000 in
theorem rencode_l2 (l : List GI) (hf : l.all folL = true) (hL : l.length ≤ 5000) (ht : totL l ≤ 4000) (d : Nat) : ∀ (out : List UInt8) (i k : Nat), i + d = l.length → totL (l.drop i) + 3 * d + 710 < k → out.length + 1000 * (totL (l.drop i) + (l.drop i).length) ≤ 100000000 →
    keyeventref04_Encode.l2 k (toB out) l (l.length : Int) (i : Int) = some (outE out (encGs (l.drop i))) := by
  induction d with
  | zero =>
    intro out i k hd hk hb
    obtain ⟨k, rfl⟩ : ∃ m, k = m + 1 := ⟨k - 1, by omega⟩
    simp only [keyeventref04_Encode.l2]
    rw [if_neg (by omega), List.drop_of_length_le (by omega)]
    simp [encGs, outE]
  | succ d ih =>
    intro out i k hd hk hb
    obtain ⟨k, rfl⟩ : ∃ m, k = m + 1 := ⟨k - 1, by omega⟩
    simp only [keyeventref04_Encode.l2]
    have hi : i < l.length := by omega
    have hg : folL l[i] = true := List.all_eq_true.1 hf _ (List.getElem_mem hi)
    have hp : patOf l[i].f0 ≠ [] := by unfold folL at hg; exact (of_decide_eq_true hg).1
    have h0 : 0 < (patOf l[i].f0).length := List.length_pos_iff.2 hp
    have hle := tot_le l[i] (List.getElem_mem hi)
    have hcn := cnt_le l[i]
    have htd := tot_drop l i hi
    have hld : (l.drop i).length = (l.drop (i + 1)).length + 1 := by simp; omega
    have hdiv : ((l[i].f1.length : Int) / ((patOf l[i].f0).length : Int)) = (cntOf l[i] : Int) := by unfold cntOf; omega
    have e4 : ¬ ((patOf l[i].f0).length : Int) = 0 := by omega
    rw [if_pos (by omega), if_pos (by omega), if_pos (by omega), rdG_get l i hi, rpermitted_is _ k (by omega)]
    simp only [Option.bind_some]
    rw [if_neg e4, hdiv, wrap_nat (by omega), rmark_is (patOf_ok hp) (by omega) (by omega)]
    simp only [Option.bind_some]
    have e0 : out.length + 4 ≤ 9223372036854775807 := by omega
    have hml : (markL l[i].f0 (cntOf l[i])).length = 4 := rfl
    rw [toB_size, toB_size, hml, if_pos e0, toB_app]
    clear hml
    have e2 : l[i].f1.length + (totL (l.drop (i + 1)) + 3 * d + 711) < k := by omega
    have e1 : (out ++ markL l[i].f0 (cntOf l[i])).length + 1000 * (l[i].f1.length + totL (l.drop (i + 1)) + (l.drop (i + 1)).length) ≤ 100000000 := by
      have e : (out ++ markL l[i].f0 (cntOf l[i])).length = out.length + 4 := List.length_append
      omega
    have e3 := rencode_l3 l i hi (totL (l.drop (i + 1)) + 3 * d + 711) (by omega) (by omega) (fun out k hk hb => by
      rw [show ((i : Int) + 1) = ((i + 1 : Nat) : Int) by omega, wrap_nat (by omega)]
      exact ih out (i + 1) k (by omega) (by omega) hb) l[i].f1.length (out ++ markL l[i].f0 (cntOf l[i])) 0 k (Nat.zero_add _) e2 e1
    rw [Int.ofNat_zero] at e3
    rw [e3]
    rw [List.drop_zero, List.drop_eq_getElem_cons hi]
    have he : encGs (l[i] :: l.drop (i + 1)) = if (encIs l[i].f1).2 = 0 then (if (encGs (l.drop (i + 1))).2 = 0 then (markL l[i].f0 (cntOf l[i]) ++ (encIs l[i].f1).1 ++ (encGs (l.drop (i + 1))).1, 0) else ([], (encGs (l.drop (i + 1))).2)) else ([], (encIs l[i].f1).2) := rfl
    by_cases h1 : (encIs l[i].f1).2 = 0
    · rw [if_pos h1] at he
      by_cases h2 : (encGs (l.drop (i + 1))).2 = 0
      · rw [if_pos h2] at he
        rw [he]
        unfold contE outE
        rw [if_pos h1, if_pos h2, if_pos rfl]
        simp only [List.append_assoc]
      · rw [if_neg h2] at he
        rw [he]
        unfold contE outE
        rw [if_pos h1, if_neg h2, if_neg h2]
    · rw [if_neg h1] at he
      rw [he]
      unfold contE outE
      rw [if_neg h1, if_neg h1]
set_option maxRecDepth 20000 in
theorem rencode_l1 (l : List GI) (hL : l.length ≤ 5000) (ht : totL l ≤ 4000) (d : Nat) : ∀ (i k : Nat), i + d = l.length → 19900 < k →
    keyeventref04_Encode.l1 (k + d + 1) l l (l.length : Int) (i : Int) = if (l.drop i).all folL = true then keyeventref04_Encode.l2 k ⟨#[]⟩ l (l.length : Int) 0 else some (⟨#[]⟩, 7) := by
  induction d with
  | zero =>
    intro i k hd hk
    rw [Nat.add_zero, keyeventref04_Encode.l1.eq_2]
    rw [if_neg (by omega), List.drop_of_length_le (by omega), List.all_nil, if_pos rfl]
  | succ d ih =>
    intro i k hd hk
    rw [keyeventref04_Encode.l1.eq_2, ← Nat.add_assoc]
    have hi : i < l.length := by omega
    have hle := tot_le l[i] (List.getElem_mem hi)
    rw [if_pos (by omega), if_pos (by omega), if_pos (by omega), rdG_get l i hi, rfollows_is l[i] (by omega) (k + d + 1) (by omega), List.drop_eq_getElem_cons hi, List.all_cons]
    simp only [Option.bind_some]
    by_cases hf : folL l[i] = true
    · rw [if_pos hf, show ((i : Int) + 1) = ((i + 1 : Nat) : Int) by omega, wrap_nat (by omega), ih (i + 1) k (by omega) (by omega), hf, Bool.true_and]
    · rw [if_neg hf, if_neg (by simp [hf])]
theorem rencode_l0 (l : List GI) (B : Nat) (hB : B ≤ 1000000) (hl : l.length ≤ B) (d : Nat) : ∀ (i k acc : Nat), i + d = l.length → acc + totL (l.drop i) ≤ B →
    keyeventref04_Encode.l0 (k + d + 1) l (acc : Int) l (l.length : Int) (i : Int) = if acc + totL (l.drop i) > 1024 then some (⟨#[]⟩, 3) else keyeventref04_Encode.l1 k l l (l.length : Int) 0 := by
  induction d with
  | zero =>
    intro i k acc hd hb
    rw [Nat.add_zero, keyeventref04_Encode.l0.eq_2]
    rw [if_neg (by omega), List.drop_of_length_le (by omega)]
    have h0 : acc + totL ([] : List GI) = acc := rfl
    rw [h0]
    by_cases h : acc > 1024
    · rw [if_pos (by omega), if_pos h]
    · rw [if_neg (by omega), if_neg h]
  | succ d ih =>
    intro i k acc hd hb
    rw [keyeventref04_Encode.l0.eq_2, ← Nat.add_assoc]
    have hi : i < l.length := by omega
    rw [tot_drop l i hi] at hb ⊢
    rw [if_pos (by omega), if_pos (by omega), if_pos (by omega), rdG_get l i hi]
    rw [show ((acc : Int) + (l[i].f1.length : Int)) = ((acc + l[i].f1.length : Nat) : Int) by omega, wrap_nat (by omega), show ((i : Int) + 1) = ((i + 1 : Nat) : Int) by omega, wrap_nat (by omega)]
    rw [ih (i + 1) k (acc + l[i].f1.length) (by omega) (by omega), Nat.add_assoc]
set_option maxRecDepth 20000 in
theorem rencode_is (l : List GI) (hl : l.length ≤ 5000) (ht : totL l ≤ 4000) (k : Nat) (hk : 45000 < k) : keyeventref04_Encode.f k l = some (toB (encS l).1, (encS l).2) := by
  obtain ⟨k, rfl⟩ : ∃ m, k = ((m + l.length + 1) + l.length) + 1 := ⟨k - l.length - l.length - 2, by omega⟩
  have hk2 : 19900 < k := by omega
  clear hk
  unfold keyeventref04_Encode.f encS
  have e0 := rencode_l0 l 10000 (by decide) (by omega) l.length 0 (k + l.length + 1) 0 (Nat.zero_add _) (by rw [List.drop_zero]; omega)
  rw [List.drop_zero, Nat.zero_add] at e0
  refine Eq.trans e0 ?_
  by_cases h : totL l > 1024
  · rw [if_pos h, if_pos h]; rfl
  · rw [if_neg h, if_neg h]
    have e1 := rencode_l1 l hl ht l.length 0 k (Nat.zero_add _) hk2
    rw [List.drop_zero] at e1
    refine Eq.trans e1 ?_
    by_cases hf : l.all folL = true
    · rw [if_pos hf, if_pos hf]
      have := rencode_l2 l hf hl ht l.length [] 0 k (Nat.zero_add _) (by rw [List.drop_zero]; omega) (by rw [List.drop_zero, List.length_nil]; omega)
      rw [List.drop_zero] at this
      refine Eq.trans this ?_
      unfold outE
      by_cases h2 : (encGs l).2 = 0
      · rw [if_pos h2, h2]; rfl
      · rw [if_neg h2]
        have hb : (encS l).1 = [] := encS_bad (by unfold encS; rw [if_neg h, if_pos hf]; exact h2)
        unfold encS at hb
        rw [if_neg h, if_pos hf] at hb
        rw [hb]; rfl
    · rw [if_neg hf, if_neg hf]; rfl
/-! ### Groups -/
theorem rparse_step (t : ByteArray) (acc n : Int) (i : Int) (h0 : 0 ≤ i) (hi : i < n) (h1 : i < (t.size : Int)) (c : UInt8) (hc : bt t i = ((c.toNat : Nat) : Int)) (k : Nat) (hk : 70 ≤ k) :
    keyeventref01_Parse.l0 (k + 1) t acc n i = match vl c with
      | none => some (0, 4)
      | some v => keyeventref01_Parse.l0 k t (Go.bits .or .i64 (wrap64 (acc * 64)) (v : Int)) n (wrap64 (i + 1)) := by
  rw [keyeventref01_Parse.l0.eq_2, if_pos hi, if_pos h0, if_pos h1, hc, rvalue_is c k hk]
  cases vl c with
  | none => rfl
  | some v => rfl
theorem rparse2_is (a b : UInt8) (k : Nat) (hk : 80 ≤ k) : keyeventref01_Parse.f k (toB [a, b]) = some (match numL 0 [a, b] with | none => ((0 : Int), (4 : Int)) | some n => ((n : Int), 0)) := by
  obtain ⟨k, rfl⟩ : ∃ m, k = m + 1 + 1 + 1 + 1 := ⟨k - 4, by omega⟩
  have hk2 : 70 ≤ k := by omega
  clear hk
  unfold keyeventref01_Parse.f
  have hs : ((toB [a, b]).size : Int) = 2 := by rw [toB_size]; rfl
  have b0 : bt (toB [a, b]) 0 = ((a.toNat : Nat) : Int) := by simpa using byteAt [a, b] 0
  have b1 : bt (toB [a, b]) 1 = ((b.toNat : Nat) : Int) := by simpa using byteAt [a, b] 1
  have w0 : wrap64 (0 + 1) = 1 := by decide +kernel
  have w1 : wrap64 (1 + 1) = 2 := by decide +kernel
  rw [hs, if_neg (by decide), keyeventref01_Parse.j0.eq_2, if_neg (by decide), hs, rparse_step (toB [a, b]) 0 2 0 (by decide) (by decide) (by rw [hs]; decide) a b0 (k + 1 + 1) (by omega), num2]
  cases ha : vl a with
  | none => rfl
  | some x =>
    obtain ⟨hx, _⟩ := vl_some ha
    have o1 := or6 0 x 0 (by omega) (by omega) hx
    rw [Int.ofNat_zero] at o1
    dsimp only
    rw [o1, w0, rparse_step (toB [a, b]) _ 2 1 (by decide) (by decide) (by rw [hs]; decide) b b1 (k + 1) (by omega)]
    cases hb : vl b with
    | none => rfl
    | some y =>
      obtain ⟨hy, _⟩ := vl_some hb
      have o2 := or6 (0 * 64 + x) y 1 (by omega) (by omega) hy
      dsimp only
      rw [o2, w1, keyeventref01_Parse.l0.eq_2, if_neg (by decide)]
      simp
theorem rletter (t : ByteArray) (ht : 1 < (t.size : Int)) (i : Int) (h1 : 0 ≤ i) (h2 : i < 5) (c : Int) (k : Nat) : keyeventref04_Group.l0 (k + 1) t i c = keyeventref04_Group.l0 k t (wrap64 (i + 1)) (if (bt (⟨#[63, 65, 66, 67, 71]⟩ : ByteArray) i) = (bt t 1) then i else c) := by
  rw [keyeventref04_Group.l0.eq_2, if_pos h2, if_pos h1, if_pos ht]
  split <;> rfl
theorem rletters (t : ByteArray) (ht : 1 < (t.size : Int)) (k : Nat) : keyeventref04_Group.l0 (k + 4) t 1 0 = keyeventref04_Group.l0 k t 5 (numOf (bt t 1)) := by
  rw [rletter t ht 1 (by omega) (by omega), show wrap64 (1 + 1) = 2 from by decide +kernel, rletter t ht 2 (by omega) (by omega), show wrap64 (2 + 1) = 3 from by decide +kernel, rletter t ht 3 (by omega) (by omega), show wrap64 (3 + 1) = 4 from by decide +kernel, rletter t ht 4 (by omega) (by omega), show wrap64 (4 + 1) = 5 from by decide +kernel]
  congr 1
  rw [show bt (⟨#[63, 65, 66, 67, 71]⟩ : ByteArray) 1 = 65 from rfl, show bt (⟨#[63, 65, 66, 67, 71]⟩ : ByteArray) 2 = 66 from rfl, show bt (⟨#[63, 65, 66, 67, 71]⟩ : ByteArray) 3 = 67 from rfl, show bt (⟨#[63, 65, 66, 67, 71]⟩ : ByteArray) 4 = 71 from rfl]
  unfold numOf
  repeat' split
  all_goals omega
theorem rgroup_l2 (c : Int) (n i : Nat) (p : List Int) (k0 : Nat) (r0 : List PI → List UInt8 → Except Int (List PI × List UInt8)) (hk0 : 3100 < k0) (hpl : p.length ≤ 2) (B : Nat) (hB : B ≤ 1000000)
    (H : ∀ (t : List UInt8) (acc : List PI) (k : Nat), k0 ≤ k → acc.length ≤ B → GrpR c acc (r0 acc t) (keyeventref04_Group.l1 k (toB t) (n : Int) (wrap64 ((i : Int) + 1)) c acc)) (d : Nat) :
    ∀ (t : List UInt8) (j k : Nat) (acc : List PI), j + d = p.length → d + k0 < k → acc.length + d ≤ B →
    GrpR c acc (match rdPat (p.drop j) t with | .ok (l, u) => (match r0 (acc ++ l) u with | .ok (m, v) => .ok (l ++ m, v) | .error e => .error e) | .error e => .error e) (keyeventref04_Group.l2 k (toB t) (n : Int) (i : Int) p (p.length : Int) (j : Int) c acc) := by
  induction d with
  | zero =>
    intro t j k acc hd hk hb
    obtain ⟨k, rfl⟩ : ∃ m, k = m + 1 := ⟨k - 1, by omega⟩
    simp only [keyeventref04_Group.l2]
    rw [if_neg (by omega), List.drop_of_length_le (by omega)]
    have := H t acc k (by omega) (by omega)
    simp only [rdPat, List.append_nil, List.nil_append]
    unfold GrpR at this ⊢
    split at this <;> simp_all
  | succ d ih =>
    intro t j k acc hd hk hb
    obtain ⟨k, rfl⟩ : ∃ m, k = m + 1 := ⟨k - 1, by omega⟩
    have hj : j < p.length := by omega
    simp only [keyeventref04_Group.l2]
    rw [if_pos (by omega), if_pos (by omega), if_pos (by omega), ref03_Decode_is _ k (by omega), toB_data, List.drop_eq_getElem_cons hj]
    simp only [Option.bind_some]
    rw [rdPat, rd_get p j hj]
    by_cases h0 : (decP t).2.2.2 = 0
    · rw [if_pos h0, if_pos h0]
      by_cases h1 : (decP t).1 = p[j]
      · obtain ⟨_, _, hn, hle, _⟩ := encP_decP (decP_eq h0)
        have hB2 : acc.length < 5864062014805 := by omega
        rw [if_pos h1, if_pos h1, if_pos hB2, if_pos (by omega), if_pos (by rw [toB_size]; omega)]
        rw [extract_toB, toB_data, toB_size, List.take_length, show ((j : Int) + 1) = ((j + 1 : Nat) : Int) by omega, wrap_nat (by omega)]
        have := ih (t.drop (decP t).2.2.1.toNat) (j + 1) k (acc ++ [⟨(decP t).1, toB (decP t).2.1⟩]) (by omega) (by omega) (by rw [List.length_append, List.length_singleton]; omega)
        cases hr : rdPat (p.drop (j + 1)) (t.drop (decP t).2.2.1.toNat) with
        | error e =>
          rw [hr] at this
          exact this
        | ok x =>
          obtain ⟨l, u⟩ := x
          rw [hr] at this
          simp only [List.append_assoc, List.singleton_append] at this ⊢
          cases hr2 : r0 (acc ++ (⟨(decP t).1, toB (decP t).2.1⟩ :: l)) u with
          | error e =>
            rw [hr2] at this
            exact this
          | ok y =>
            obtain ⟨m, v⟩ := y
            rw [hr2] at this
            unfold GrpR at this ⊢
            simp only at this ⊢
            rw [this]
            simp
      · rw [if_neg h1, if_neg h1]
        exact ⟨_, rfl⟩
    · rw [if_neg h0, if_neg h0]
      exact ⟨_, rfl⟩
set_option maxRecDepth 20000 in
theorem rgroup_l1 (c : Int) (n : Nat) (hn : n ≤ 4096) (d : Nat) : ∀ (i : Nat) (t : List UInt8) (acc : List PI) (k : Nat), i + d = n → 4 * d + 3110 < k → acc.length + 2 * d ≤ 1000000 →
    GrpR c acc (rdN d (patOf c) t) (keyeventref04_Group.l1 k (toB t) (n : Int) (i : Int) c acc) := by
  induction d with
  | zero =>
    intro i t acc k hd hk hb
    obtain ⟨k, rfl⟩ : ∃ m, k = m + 1 := ⟨k - 1, by omega⟩
    simp only [keyeventref04_Group.l1]
    rw [if_neg (by omega)]
    simp [GrpR, rdN]
  | succ d ih =>
    intro i t acc k hd hk hb
    obtain ⟨k, rfl⟩ : ∃ m, k = m + 1 := ⟨k - 1, by omega⟩
    simp only [keyeventref04_Group.l1]
    rw [if_pos (by omega), rpermitted_is c k (by omega)]
    simp only [Option.bind_some]
    have hp := pat_len c
    have := rgroup_l2 c n i (patOf c) (4 * d + 3111) (fun _ u => rdN d (patOf c) u) (by omega) hp (acc.length + 2) (by omega)
      (fun t acc' k hk hacc => by
        rw [show ((i : Int) + 1) = ((i + 1 : Nat) : Int) by omega, wrap_nat (by omega)]
        exact ih (i + 1) t acc' k (by omega) (by omega) (by omega)) (patOf c).length t 0 k acc (by omega) (by omega) (by omega)
    rw [List.drop_zero] at this
    rw [rdN]
    exact this
set_option maxRecDepth 20000 in
theorem rgroup_is (t : List UInt8) (k : Nat) (hk : 20000 < k) : match rdG t with
    | .ok (g, u) => keyeventref04_Group.f k (toB t) = some (g.f0, g.f1, toB u, 0)
    | .error e => ∃ c y, keyeventref04_Group.f k (toB t) = some (c, y, ⟨#[]⟩, e) := by
  obtain ⟨k, rfl⟩ : ∃ m, k = m + 7 := ⟨k - 7, by omega⟩
  unfold rdG keyeventref04_Group.f
  rw [toB_size]
  by_cases h4 : t.length < 4
  · rw [if_pos (Or.inl h4), if_pos (by omega), keyeventref04_Group.j0.eq_2, if_pos rfl]
    exact ⟨_, _, rfl⟩
  · obtain ⟨a, b, c, d, r, rfl⟩ : ∃ a b c d r, t = a :: b :: c :: d :: r := by
      match t, h4 with
      | a :: b :: c :: d :: r, _ => exact ⟨a, b, c, d, r, rfl⟩
      | [], h => simp at h
      | [_], h => simp at h
      | [_, _], h => simp at h
      | [_, _, _], h => simp at h
    have b0 : bt (toB (a :: b :: c :: d :: r)) 0 = ((a.toNat : Nat) : Int) := by simpa using byteAt (a :: b :: c :: d :: r) 0
    have b1 : bt (toB (a :: b :: c :: d :: r)) 1 = ((b.toNat : Nat) : Int) := by simpa using byteAt (a :: b :: c :: d :: r) 1
    have q1 : ¬ (((a :: b :: c :: d :: r).length : Int) < 4) := by omega
    have q2 : 0 < (((a :: b :: c :: d :: r).length : Nat) : Int) := by omega
    simp only [List.getD_cons_zero, List.getD_cons_succ, List.drop_succ_cons, List.drop_zero, if_neg q1, if_pos q2, b0, keyeventref04_Group.j0.eq_2]
    by_cases ha : a = 45
    · subst ha
      rw [if_neg (show ¬ ((((45 : UInt8).toNat : Nat) : Int) != 45) = true by decide), if_neg (show ¬ ((45 :: b :: c :: d :: r).length < 4 ∨ (45 : UInt8) ≠ 45) from fun h => h.elim h4 (fun h => h rfl))]
      have hsz : 1 < ((toB (45 :: b :: c :: d :: r)).size : Int) := by rw [toB_size]; simp only [List.length_cons]; omega
      rw [show k + 6 = (k + 2) + 4 by omega, rletters _ hsz, b1, keyeventref04_Group.l0.eq_2, if_neg (by decide), if_pos (by decide), if_pos (by rw [toB_size]; omega), extract_toB, toB_data]
      simp only [List.take_succ_cons, List.take_zero, List.drop_succ_cons, List.drop_zero]
      rw [rparse2_is c d _ (by omega)]
      simp only [Option.bind_some]
      cases hn : numL 0 [c, d] with
      | none =>
        dsimp only
        by_cases hz : numOf ((b.toNat : Nat) : Int) = 0
        · rw [if_pos hz, keyeventref04_Group.j2.eq_2, if_pos rfl]; exact ⟨_, _, rfl⟩
        · rw [if_neg hz, keyeventref04_Group.j2.eq_2, if_pos (by decide)]; exact ⟨_, _, rfl⟩
      | some m =>
        dsimp only
        by_cases hz : numOf ((b.toNat : Nat) : Int) = 0
        · rw [if_pos hz, if_pos hz, keyeventref04_Group.j2.eq_2, if_pos rfl]; exact ⟨_, _, rfl⟩
        · have hm := (num2_some hn).1
          rw [if_neg hz, if_neg hz, keyeventref04_Group.j2.eq_2, if_neg (by decide), toB_size, if_pos (by omega), ← toB_size, extract_toB, toB_data, toB_size, List.take_length]
          simp only [List.drop_succ_cons, List.drop_zero]
          have hg := rgroup_l1 (numOf ((b.toNat : Nat) : Int)) m (by omega) m 0 r [] k (by omega) (by omega) (by simp; omega)
          rw [Int.ofNat_zero] at hg
          cases hr : rdN m (patOf (numOf ((b.toNat : Nat) : Int))) r with
          | error e =>
            rw [hr] at hg
            obtain ⟨y, hy⟩ := hg
            exact ⟨_, _, hy⟩
          | ok x =>
            obtain ⟨l, u⟩ := x
            rw [hr] at hg
            unfold GrpR at hg
            simp only [List.nil_append] at hg
            exact hg
    · rw [if_pos (show ((((a.toNat : Nat) : Int)) != 45) = true by
        rw [bne_iff_ne]; intro hc; apply ha
        have : a.toNat = 45 := by omega
        rw [← UInt8.ofNat_toNat (x := a), this]; rfl), if_pos (Or.inr ha)]
      exact ⟨_, _, rfl⟩
/-! ### Texts -/
theorem rdG_use {t : List UInt8} {g : GI} {u : List UInt8} (h : rdG t = .ok (g, u)) : u.length + g.f1.length + 4 ≤ t.length := by
  obtain ⟨_, h2, _, h4⟩ := rdG_back h
  have := encIs_ge g.f1 h2
  have hm : (markL g.f0 (cntOf g)).length = 4 := rfl
  rw [← h4, List.length_append, List.length_append]
  omega
set_option maxRecDepth 20000 in
theorem rdecode_l0 (B : Nat) (hB : B ≤ 1000000) : ∀ (n : Nat) (t : List UInt8) (acc : List GI) (m k : Nat), t.length < n → n + 20010 < k → acc.length + t.length ≤ B → m + t.length ≤ B →
    keyeventref04_Decode.l0 k (toB t) acc (m : Int) = match rdS n t with
      | .error e => some ([], e)
      | .ok (l, u) => if u ≠ [] then some ([], 4) else if m + totL l > 1024 then some ([], 3) else some (acc ++ l, 0)
  | 0, t, acc, m, k, h, _, _, _ => by omega
  | n + 1, t, acc, m, k, h, hk, hb, hm => by
    obtain ⟨k, rfl⟩ : ∃ m, k = m + 1 := ⟨k - 1, by omega⟩
    rw [keyeventref04_Decode.l0.eq_2, toB_size]
    unfold rdS
    by_cases ht : t = []
    · subst ht
      rw [if_neg (show ¬ ((([] : List UInt8).length : Int) > 0) by simp), if_neg (show ¬ (([] : List UInt8).getD 0 0 = 45 ∧ ([] : List UInt8) ≠ []) by simp)]
      have h0 : m + totL ([] : List GI) = m := rfl
      dsimp only
      rw [if_neg (show ¬ (([] : List UInt8) ≠ []) from fun h => h rfl), h0, List.append_nil]
      by_cases h1 : m > 1024
      · rw [if_pos (by omega), if_pos h1]
      · rw [if_neg (by omega), if_neg h1]
    · have hpos : 0 < t.length := List.length_pos_iff.2 ht
      rw [if_pos (by omega)]
      have hg := rgroup_is t k (by omega)
      cases hr : rdG t with
      | error e =>
        have he := rdG_err hr
        rw [hr] at hg
        obtain ⟨c, y, hy⟩ := hg
        rw [hy]
        simp only [Option.bind_some]
        rw [if_neg he]
        by_cases h45 : t.getD 0 0 = 45
        · rw [if_pos ⟨h45, ht⟩]
        · rw [if_neg (fun hc => h45 hc.1)]
          have : e = 4 := by
            unfold rdG at hr
            rw [if_pos (Or.inr h45)] at hr
            cases hr; rfl
          rw [this]
          dsimp only
          rw [if_pos ht]
      | ok x =>
        obtain ⟨g, u⟩ := x
        rw [hr] at hg
        have huse := rdG_use hr
        have h45 : t.getD 0 0 = 45 := by
          refine Decidable.byContradiction fun hc => ?_
          unfold rdG at hr
          rw [if_pos (Or.inr hc)] at hr
          cases hr
        dsimp only at hg
        rw [hg, if_pos ⟨h45, ht⟩]
        simp only [Option.bind_some, if_true]
        have hac : acc.length < 4398046511104 := by omega
        rw [if_pos hac, show ((m : Int) + (g.f1.length : Int)) = ((m + g.f1.length : Nat) : Int) by omega, wrap_nat (by omega)]
        have := rdecode_l0 B hB n u (acc ++ [(⟨g.f0, g.f1⟩ : GI)]) (m + g.f1.length) k (by omega) (by omega) (by rw [List.length_append, List.length_singleton]; omega) (by omega)
        refine this.trans ?_
        cases rdS n u with
        | error e => rfl
        | ok z =>
          obtain ⟨l, v⟩ := z
          dsimp only
          have ht : m + totL (g :: l) = m + g.f1.length + totL l := by simp [totL]; omega
          rw [ht, List.append_assoc]
          rfl
set_option maxRecDepth 20000 in
theorem rdecode_is (t : List UInt8) (ht : t.length ≤ 1000000) (k : Nat) (hk : 2 * t.length + 20020 < k) : keyeventref04_Decode.f k (toB t) = some (decS t) := by
  unfold keyeventref04_Decode.f decS
  have := rdecode_l0 t.length (by omega) (t.length + 1) t [] 0 k (by omega) (by omega) (by simp) (by omega)
  rw [Int.ofNat_zero] at this
  rw [this]
  cases rdS (t.length + 1) t with
  | error e => rfl
  | ok x =>
    obtain ⟨l, u⟩ := x
    dsimp only
    rw [Nat.zero_add, List.nil_append]
    by_cases hu : u ≠ []
    · rw [if_pos hu, if_pos hu]
    · rw [if_neg hu, if_neg hu]
      by_cases h : totL l > 1024
      · rw [if_pos h, if_pos h]
      · rw [if_neg h, if_neg h]
theorem decS_small (t : List UInt8) : (decS t).1.length ≤ t.length ∧ totL (decS t).1 ≤ t.length := by
  by_cases h : (decS t).2 = 0
  · have he := encS_decS (t := t) (l := (decS t).1) (Prod.ext rfl h)
    have hg : encGs (decS t).1 = (t, 0) := by
      unfold encS at he
      split at he
      · simp at he
      · split at he
        · exact he
        · simp at he
    have := encGs_ge (decS t).1 (by rw [hg])
    rw [hg] at this
    dsimp only at this
    omega
  · rw [decS_bad h]
    simp [totL]
def pairP : List PI := [⟨8, ⟨#[0, 0, 0, 0, 0, 1]⟩⟩, ⟨1, strOfNums (List.replicate 32 0)⟩]
def repP : Nat → List PI
  | 0 => []
  | n + 1 => pairP ++ repP n
theorem repP_len : ∀ n, (repP n).length = 2 * n
  | 0 => rfl
  | n + 1 => by rw [repP, List.length_append, repP_len n]; simp [pairP]; omega
theorem pairP_ok : (encIs pairP).2 = 0 := by decide +kernel
theorem repP_ok : ∀ n, (encIs (repP n)).2 = 0
  | 0 => rfl
  | n + 1 => by rw [repP, encIs_app _ _ pairP_ok (repP_ok n)]
theorem repP_map : ∀ n, (repP n).map (·.f0) = (List.replicate n [(8 : Int), 1]).flatten
  | 0 => rfl
  | n + 1 => by rw [repP, List.map_append, repP_map n, List.replicate_succ, List.flatten_cons]; rfl
def gP : GI := ⟨4, repP 256⟩
theorem gP_len : gP.f1.length = 512 := repP_len 256
theorem gP_fol : folL gP = true := by
  unfold folL
  have hc : cntOf gP = 256 := by
    unfold cntOf
    rw [gP_len]; rfl
  rw [hc]
  exact decide_eq_true ⟨by decide, repP_map 256⟩
theorem tot_two : totL [gP, gP] = 1024 := by
  unfold totL
  simp only [List.map_cons, List.map_nil, List.sum_cons, List.sum_nil, gP_len]
  rfl
theorem tot_three : totL [gP, gP, ⟨4, pairP⟩] = 1026 := by
  unfold totL
  simp only [List.map_cons, List.map_nil, List.sum_cons, List.sum_nil, gP_len]
  rfl
theorem two_ok : (encS [gP, gP]).2 = 0 := by
  unfold encS
  rw [tot_two, if_neg (by omega), if_pos (by simp only [List.all_cons, List.all_nil, gP_fol, Bool.and_self])]
  have h : (encIs gP.f1).2 = 0 := repP_ok 256
  simp only [encGs, h, if_true]
theorem two_len : 60 ≤ (encS [gP, gP]).1.length ∧ (encS [gP, gP]).1.length ≤ 900000 := by
  have h2 := encS_len [gP, gP]
  rw [tot_two] at h2
  have h3 : ([gP, gP] : List GI).length = 2 := rfl
  have h := two_ok
  unfold encS at h h2 ⊢
  rw [tot_two, if_neg (by omega), if_pos (by simp only [List.all_cons, List.all_nil, gP_fol, Bool.and_self])] at h h2 ⊢
  have h1 := encGs_ge [gP, gP] h
  rw [tot_two] at h1
  omega
theorem three_bad : (encS [gP, gP, ⟨4, pairP⟩]).2 = 3 := by
  unfold encS
  rw [tot_three, if_pos (by omega)]
theorem repP_take : (repP 256).take 2 = pairP := rfl
theorem limit_j2 (x0 : Int) (L : List GI) (h2 : L.take 2 = [gP, gP]) (hl : 2 ≤ L.length ∧ L.length ≤ 3) (ht : totL L ≤ 1100) (he : ((encS L).2 == 0) = (Int.tmod x0 2 == 0)) (k : Nat) (hk : 4000000 < k) : keyeventlaw04_StreamLimit.j2 (k + 1) x0 L = some true := by
  obtain ⟨n1, n2⟩ := two_len
  have hx : ∀ t : List UInt8, t = (encS [gP, gP]).1 → t.length ≤ 900000 := fun t h => by rw [h]; exact n2
  rw [keyeventlaw04_StreamLimit.j2.eq_2, encode_is L (by omega) (by omega) k (by omega), rencode_is L (by omega) (by omega) k (by omega)]
  simp only [Option.bind_some]
  rw [if_pos (by omega), h2, rencode_is [gP, gP] (by decide) (by rw [tot_two]; omega) k (by omega)]
  simp only [Option.bind_some]
  generalize hT : (encS [gP, gP]).1 = T at n1 n2 ⊢
  have z1 : (0 : Nat) ≤ 60 := by decide
  have z2 : (60 : Int) ≤ ((toB T).size : Int) := by rw [toB_size]; omega
  rw [if_pos z1, if_pos z2, extract_toB, toB_data, List.drop_zero]
  have hl2 : (T.take 60).length ≤ 60 := by rw [List.length_take]; omega
  have z3 : (toB T).size + (toB (T.take 60)).size ≤ 9223372036854775807 := by rw [toB_size, toB_size]; omega
  rw [if_pos z3, toB_app]
  have hl3 : (T ++ T.take 60).length ≤ 900060 := by rw [List.length_append]; omega
  obtain ⟨s1, s2⟩ := decS_small (T ++ T.take 60)
  rw [decode_is _ (by omega) k (by omega), rdecode_is _ (by omega) k (by omega)]
  simp only [Option.bind_some]
  rw [if_pos trivial, if_pos (by rw [he]; simp), if_pos trivial, same_is _ (by omega) (by omega) k (by omega)]
  simp only [Option.bind_some, if_true]
  rw [awake04 k (by omega)]
  simp only [Option.bind_some]
  by_cases h0 : (encS L).2 = 0
  · rw [if_pos h0]
  · rw [if_neg h0, encS_bad h0, if_pos (by rw [ByteArray.toList_eq]; rfl)]
theorem limit_l1 (x0 x3 : Int) (x4 : List GI) (h4 : x4.length ≤ 10) (x20 : Int) (k : Nat) (d : Nat) : ∀ (j : Nat) (acc : List PI), j + d = 256 → acc.length + 2 * d ≤ 1000 →
    keyeventlaw04_StreamLimit.l1 (k + d + 1) x0 x3 x4 x20 256 (j : Int) 4 acc = keyeventlaw04_StreamLimit.l0 k x0 x3 (x4 ++ [⟨4, acc ++ repP d⟩]) (wrap64 (x20 + 1)) := by
  induction d with
  | zero =>
    intro j acc hj hb
    rw [Nat.add_zero, keyeventlaw04_StreamLimit.l1.eq_2, if_neg (by omega), if_pos (by omega), repP, List.append_nil]
  | succ d ih =>
    intro j acc hj hb
    rw [← Nat.add_assoc, keyeventlaw04_StreamLimit.l1.eq_2, if_pos (by omega), if_pos (by decide)]
    simp only [Option.bind_some]
    have hp : acc.length + pairP.length < 5864062014805 := by
      have : pairP.length = 2 := rfl
      omega
    have hq := ih (j + 1) (acc ++ pairP) (by omega) (by
      rw [List.length_append]
      have : pairP.length = 2 := rfl
      omega)
    rw [List.append_assoc] at hq
    rw [show (((j + 1 : Nat) : Int)) = wrap64 ((j : Int) + 1) by rw [show ((j : Int) + 1) = ((j + 1 : Nat) : Int) by omega, wrap_nat (by omega)]] at hq
    exact (if_pos hp).trans hq
theorem limit_k (a0 : Int) (h : a0 % 2 = Int.tmod a0 2) (m : Nat) (hm : 4000000 < m) : ∃ k, keyeventlaw04_StreamLimit.f k a0 = some true := by
  refine ⟨m + 1 + 1 + 256 + 1 + 1 + 256 + 1 + 1, ?_⟩
  unfold keyeventlaw04_StreamLimit.f
  have hr : Int.tmod a0 2 = 0 ∨ Int.tmod a0 2 = 1 := by omega
  have w1 : wrap64 (Int.tdiv (wrap64 (512 + wrap64 (Int.tmod a0 2))) 2) = 256 := by
    rcases hr with h | h <;> rw [h] <;> decide +kernel
  generalize wrap64 (512 + wrap64 (Int.tmod a0 2)) = x3 at w1 ⊢
  have z0 : (0 : Int) = ((0 : Nat) : Int) := rfl
  rw [keyeventlaw04_StreamLimit.l0.eq_2, if_pos (by decide), w1]
  have e1 := limit_l1 a0 x3 [] (by simp) 0 (m + 1 + 1 + 256 + 1 + 1) 256 0 [] (by omega) (by simp)
  refine Eq.trans e1 ?_
  have v1 : wrap64 (0 + 1) = 1 := by decide +kernel
  have v2 : wrap64 (1 + 1) = 2 := by decide +kernel
  rw [v1, keyeventlaw04_StreamLimit.l0.eq_2, if_pos (by decide), w1]
  have e2 := limit_l1 a0 x3 ([] ++ [⟨4, [] ++ repP 256⟩]) (by simp) 1 (m + 1 + 1) 256 0 [] (by omega) (by simp)
  refine Eq.trans e2 ?_
  have hL : (([] : List GI) ++ [⟨4, [] ++ repP 256⟩]) ++ [⟨4, [] ++ repP 256⟩] = [gP, gP] := rfl
  rw [v2, hL, keyeventlaw04_StreamLimit.l0.eq_2, if_neg (by decide)]
  rcases hr with hz | ho
  · rw [hz, if_neg (by decide)]
    exact limit_j2 a0 [gP, gP] rfl ⟨by decide, by decide⟩ (by rw [tot_two]; omega) (by rw [two_ok, hz]) m hm
  · rw [ho, if_pos rfl, if_pos (by decide)]
    have hg : (rd_T25 [gP, gP] 0) = gP := rfl
    have hl : (2 : Int) ≤ (gP.f1.length : Int) := by rw [gP_len]; decide
    have h3 : ([gP, gP] : List GI).length < 4398046511104 := by decide
    have htk : gP.f1.take 2 = pairP := repP_take
    rw [hg, if_pos hl, if_pos h3, htk]
    exact limit_j2 a0 [gP, gP, ⟨4, pairP⟩] rfl ⟨by decide, by decide⟩ (by rw [tot_three]; omega) (by rw [three_bad, ho]; rfl) m hm
theorem StreamLimit : keyeventlaw04_StreamLimit.Pure := fun a0 w0 => by
  refine limit_k a0 ?_ 4000001 (by omega)
  have h0 : 0 ≤ a0 := by
    have := w0
    simp only [Lit.wf, Bool.and_eq_true, decide_eq_true_eq] at this
    have hm : IntKind.u8.min = 0 := rfl
    omega
  rw [Int.tmod_eq_emod_of_nonneg h0]
end Go.Proofs.Ytookjdhfpbmjkaa.Pure
