/- What the program's functions on base64 and primitives answer, in plain lists of bytes. Conditions: enough rounds, and each lemma's own. -/
import Derived.Test.YtookjdhfpbmjkaaPlain
import Derived.Test.YtookjdhfpbmjkaaX11
import Derived.Test.YtookjdhfpbmjkaaX12
import Derived.Test.YtookjdhfpbmjkaaX13
import Derived.Test.YtookjdhfpbmjkaaX4
import Derived.Test.YtookjdhfpbmjkaaX5
namespace Go.Proofs.Ytookjdhfpbmjkaa.Pure
open Go.RowKit Go.Proofs.Ytookjdhfpbmjkaa.X Go.Proofs.YtookjdhfpbmjkaaW.PrintWords Go.Proofs.YtookjdhfpbmjkaaW.PrintLast
set_option linter.unusedVariables false
set_option linter.unusedSimpArgs false

theorem wraps_i64 (n : Int) (h₀ : 0 ≤ n) (h₁ : n < 2 ^ 63) : IntKind.i64.wrap n = n := by rw [IntKind.wrap_i64]; omega
theorem or_add (i : Nat) (x y : Int) (hi : i ≤ 62) (hx₀ : 0 ≤ x) (hx : x % 2 ^ i = 0) (hx₁ : x < 2 ^ 62) (hy₀ : 0 ≤ y) (hy : y < 2 ^ i) : Go.bits .or .i64 x y = x + y := by
  have h2 : (2 : Int) ^ i ≤ 2 ^ 62 := by
    have : 2 ^ i ≤ 2 ^ 62 := Nat.pow_le_pow_right (by decide) hi
    exact_mod_cast this
  exact bits_join .i64 63 (by decide) wraps_i64 i x y hx₀ hx (by omega) hy₀ hy (by omega)
theorem and_63 (x : Int) (h₀ : 0 ≤ x) (h₁ : x < 2 ^ 62) : Go.bits .and .i64 x 63 = x % 64 := bits_mask .i64 63 (by decide) wraps_i64 6 (by decide) x h₀ (by omega)
theorem wrap_id {n : Int} (h0 : -9223372036854775808 ≤ n) (h1 : n ≤ 9223372036854775807) : wrap64 n = n := by unfold wrap64; omega

theorem byteAt (l : List UInt8) (i : Nat) : bt (toB l) (i : Int) = ((l.getD i 0).toNat : Int) := by rw [bt_data, toB_data]
theorem alpha_at (n : Nat) (h : n < 64) : bt (⟨#[65, 66, 67, 68, 69, 70, 71, 72, 73, 74, 75, 76, 77, 78, 79, 80, 81, 82, 83, 84, 85, 86, 87, 88, 89, 90, 97, 98, 99, 100, 101, 102, 103, 104, 105, 106, 107, 108, 109, 110, 111, 112, 113, 114, 115, 116, 117, 118, 119, 120, 121, 122, 48, 49, 50, 51, 52, 53, 54, 55, 56, 57, 45, 95]⟩ : ByteArray) (n : Int) = ((dg n).toNat : Int) := by
  rw [bt_data]; rfl
theorem ofNat_toNat_int (c : UInt8) : UInt8.ofNat ((c.toNat : Int)).toNat = c := by simp

/-- Three bytes in one number, as the code joins them. -/
theorem join3 (a b c : UInt8) : Go.bits .or .i64 (Go.bits .or .i64 (wrap64 ((wrap64 (a.toNat : Int)) * 65536)) (wrap64 ((wrap64 (b.toNat : Int)) * 256))) (wrap64 (c.toNat : Int)) = ((a.toNat * 65536 + b.toNat * 256 + c.toNat : Nat) : Int) := by
  have ha := a.toNat_lt
  have hb := b.toNat_lt
  have hc := c.toNat_lt
  rw [wrap_id (n := (a.toNat : Int)) (by omega) (by omega), wrap_id (n := (b.toNat : Int)) (by omega) (by omega), wrap_id (n := (c.toNat : Int)) (by omega) (by omega), wrap_id (by omega) (by omega), wrap_id (by omega) (by omega)]
  rw [or_add 16 ((a.toNat : Int) * 65536) ((b.toNat : Int) * 256) (by decide) (by omega) (by omega) (by omega) (by omega) (by omega), or_add 8 _ _ (by decide) (by omega) (by omega) (by omega) (by omega) (by omega)]
  omega
theorem small3 (a b c : UInt8) : a.toNat * 65536 + b.toNat * 256 + c.toNat < 16777216 := by
  have ha := a.toNat_lt
  have hb := b.toNat_lt
  have hc := c.toNat_lt
  omega
theorem cut1 (n : Nat) (h : n < 16777216) : (n : Int) / 262144 = ((n / 262144 : Nat) : Int) := by omega
theorem cut2 (n : Nat) (h : n < 16777216) : Go.bits .and .i64 ((n : Int) / 4096) 63 = ((n / 4096 % 64 : Nat) : Int) := by rw [and_63 _ (by omega) (by omega)]; omega
theorem cut3 (n : Nat) (h : n < 16777216) : Go.bits .and .i64 ((n : Int) / 64) 63 = ((n / 64 % 64 : Nat) : Int) := by rw [and_63 _ (by omega) (by omega)]; omega
theorem cut4 (n : Nat) (h : n < 16777216) : Go.bits .and .i64 (n : Int) 63 = ((n % 64 : Nat) : Int) := by rw [and_63 _ (by omega) (by omega)]; omega
theorem lt64a (n : Nat) (h : n < 16777216) : n / 262144 < 64 := by omega
theorem lt64b (n : Nat) : n % 64 < 64 := by omega
theorem natI (n : Nat) : (0 : Int) ≤ (n : Int) := by omega
theorem natL {n : Nat} (h : n < 64) : (n : Int) < 64 := by omega
theorem enc_l0 (d : Nat) : ∀ (k : Nat) (l : List UInt8) (x4 : List Int), l.length % 3 = 0 → l.length = d → d < k → x4.length + 2 * d ≤ 140737488355000 →
    base64_Encode.l0 k (toB l) x4 = some (toB (numsB x4 ++ enc l), 0) := by
  induction d using Nat.strongRecOn with
  | _ d ih =>
  intro k l x4 h3 hd hk hx
  obtain ⟨k, rfl⟩ : ∃ m, k = m + 1 := ⟨k - 1, by omega⟩
  match l, h3, hd with
  | [], _, _ =>
    simp only [base64_Encode.l0]
    rw [if_pos (by rw [ByteArray.toList_eq, toB_data])]
    simp [enc, strOfNums_eq]
  | [_], h3, _ => simp at h3
  | [_, _], h3, _ => simp at h3
  | a :: b :: c :: r, h3, hd =>
    have h0 : bt (toB (a :: b :: c :: r)) 0 = (a.toNat : Int) := by have := byteAt (a :: b :: c :: r) 0; simpa using this
    have h1 : bt (toB (a :: b :: c :: r)) 1 = (b.toNat : Int) := by have := byteAt (a :: b :: c :: r) 1; simpa using this
    have h2 : bt (toB (a :: b :: c :: r)) 2 = (c.toNat : Int) := by have := byteAt (a :: b :: c :: r) 2; simpa using this
    have hs : ((toB (a :: b :: c :: r)).size : Int) = r.length + 3 := by rw [toB_size]; simp; omega
    have hj := join3 a b c
    simp only [base64_Encode.l0]
    rw [if_neg (by rw [ByteArray.toList_eq, toB_data]; simp), h0, h1, h2, hj, hs]
    have hn1 := small3 a b c
    clear h0 h1 h2 hj
    obtain ⟨n, hn⟩ : ∃ n, a.toNat * 65536 + b.toNat * 256 + c.toNat = n := ⟨_, rfl⟩
    rw [hn] at hn1 ⊢
    rw [cut1 n hn1, cut2 n hn1, cut3 n hn1, cut4 n hn1]
    rw [if_pos (by omega), if_pos (by omega), if_pos (by omega), if_pos (natI _), if_pos (natL (lt64a n hn1)), if_pos (natI _), if_pos (natL (lt64b _)), if_pos (natI _), if_pos (natL (lt64b _)), if_pos (natI _), if_pos (natL (lt64b _))]
    rw [alpha_at _ (lt64a n hn1), alpha_at _ (lt64b _), alpha_at _ (lt64b _), alpha_at _ (lt64b _)]
    simp only [Option.bind_some]
    have hd' : r.length + 3 = d := by simpa using hd
    rw [if_pos (by simp only [List.length_cons, List.length_nil]; omega), if_pos (by omega)]
    have hex : (toB (a :: b :: c :: r)).extract 3 (toB (a :: b :: c :: r)).size = toB r := by
      rw [extract_toB, toB_data, toB_size]; simp
    rw [hex, ih r.length (by omega) k r _ (by simp at h3; omega) rfl (by omega) (by simp only [List.length_append, List.length_cons, List.length_nil]; omega)]
    rw [numsB_app, List.append_assoc]
    simp only [numsB, List.map_cons, List.map_nil, ofNat_toNat_int, List.cons_append, List.nil_append, enc, hn]

theorem base64_Encode_is (s : ByteArray) (k : Nat) (hk : s.size < k) : base64_Encode.f k s = some (if s.size > 65536 then (⟨#[]⟩, 3) else if s.size % 3 = 0 then (toB (enc s.data.toList), 0) else (⟨#[]⟩, 8)) := by
  unfold base64_Encode.f
  by_cases h1 : s.size > 65536
  · rw [if_pos (by omega), if_pos h1]
  · rw [if_neg (by omega), if_neg h1]
    by_cases h2 : s.size % 3 = 0
    · have hw1 : wrap64 ((s.size : Int) / 3) * 4 = (s.size : Int) / 3 * 4 := by rw [wrap_id (by omega) (by omega)]
      have hw : wrap64 (wrap64 ((s.size : Int) / 3) * 4) = (s.size : Int) / 3 * 4 := by rw [hw1, wrap_id (by omega) (by omega)]
      rw [if_pos (by omega), if_pos h2]
      rw [hw, if_pos (by omega), if_pos (by omega)]
      have hl : s.data.toList.length = s.size := data_len s
      have := enc_l0 s.size k s.data.toList [] (by rw [hl]; exact h2) hl hk (by simp only [List.length_nil]; omega)
      rw [toB_of] at this
      rw [this]
      rfl
    · rw [if_neg (by omega), if_neg h2]

def numL : Nat → List UInt8 → Option Nat
  | acc, [] => some acc
  | acc, c :: r => (vl c).bind fun x => numL (acc * 64 + x) r
theorem b64Num_pos (c : Int) (h : ¬ b64Num c = 0) : 1 ≤ b64Num c := by have := b64Num_bd c; omega
theorem value_is (c : UInt8) : base64_Value.f (c.toNat : Int) = some (match vl c with | none => (0, false) | some n => ((n : Int), true)) := by
  have hc := c.toNat_lt
  unfold base64_Value.f vl
  rw [if_pos (by omega)]
  by_cases h : b64Num (c.toNat : Int) = 0
  · rw [if_pos h, if_pos h]
  · have h1 := b64Num_pos _ h
    rw [if_neg h, if_neg h]
    simp only [Option.some.injEq, Prod.mk.injEq, and_true]
    omega
theorem or6 (acc x i : Nat) (hi : i < 8) (ha : acc < 64 ^ i) (hx : x < 64) : Go.bits .or .i64 (wrap64 ((acc : Int) * 64)) (x : Int) = ((acc * 64 + x : Nat) : Int) := by
  have h8 : 64 ^ i ≤ 64 ^ 7 := Nat.pow_le_pow_right (by decide) (by omega)
  have h9 : acc < 4398046511104 := by
    have : (64 : Nat) ^ 7 = 4398046511104 := by decide
    omega
  rw [wrap_id (by omega) (by omega), or_add 6 _ _ (by decide) (by omega) (by omega) (by omega) (by omega) (by omega)]
  omega
theorem number_l0 (l : List UInt8) (hl : l.length ≤ 8) (d : Nat) : ∀ (k i acc : Nat), l.length - i = d → i ≤ l.length → d < k → acc < 64 ^ i →
    base64_number.l0 k (toB l) (acc : Int) (l.length : Int) (i : Int) = some (match numL acc (l.drop i) with | none => (0, false) | some n => ((n : Int), true)) := by
  induction d with
  | zero =>
    intro k i acc hd hi hk ha
    obtain ⟨k, rfl⟩ : ∃ m, k = m + 1 := ⟨k - 1, by omega⟩
    simp only [base64_number.l0]
    rw [if_neg (by omega), List.drop_of_length_le (by omega)]
    rfl
  | succ d ih =>
    intro k i acc hd hi hk ha
    obtain ⟨k, rfl⟩ : ∃ m, k = m + 1 := ⟨k - 1, by omega⟩
    have hlt : i < l.length := by omega
    simp only [base64_number.l0]
    rw [if_pos (by omega), if_pos (by omega), if_pos (by rw [toB_size]; omega), byteAt]
    have hg : l.getD i 0 = l[i] := by simp [List.getD, hlt]
    rw [hg, value_is, List.drop_eq_getElem_cons hlt]
    simp only [Option.bind_some, numL]
    cases hv : vl l[i] with
    | none => simp
    | some x =>
      obtain ⟨hx, _⟩ := vl_some hv
      simp only [if_true, Option.bind_some]
      rw [or6 acc x i (by omega) ha hx, wrap_id (by omega) (by omega)]
      have hp : acc * 64 + x < 64 ^ (i + 1) := by rw [Nat.pow_succ]; omega
      have := ih k (i + 1) (acc * 64 + x) (by omega) (by omega) (by omega) hp
      rw [show ((i : Int) + 1) = ((i + 1 : Nat) : Int) by omega]
      exact this
theorem base64_number_is (l : List UInt8) (hl : l.length ≤ 8) (k : Nat) (hk : l.length < k) : base64_number.f k (toB l) = some (match numL 0 l with | none => (0, false) | some n => ((n : Int), true)) := by
  unfold base64_number.f
  have := number_l0 l hl l.length k 0 0 (by omega) (by omega) hk (by simp)
  rw [toB_size]
  exact this
theorem num4 (a b c d : UInt8) : numL 0 [a, b, c, d] = (vl a).bind fun x => (vl b).bind fun y => (vl c).bind fun z => (vl d).bind fun u => some (x * 262144 + y * 4096 + z * 64 + u) := by
  simp only [numL]
  cases vl a <;> simp
  cases vl b <;> simp
  cases vl c <;> simp
  cases vl d <;> simp
  omega
theorem num4_lt (a b c d : UInt8) (n : Nat) (h : numL 0 [a, b, c, d] = some n) : n < 16777216 := by
  rw [num4] at h
  obtain ⟨x, hx, h⟩ := Option.bind_eq_some_iff.mp h
  obtain ⟨y, hy, h⟩ := Option.bind_eq_some_iff.mp h
  obtain ⟨z, hz, h⟩ := Option.bind_eq_some_iff.mp h
  obtain ⟨u, hu, h⟩ := Option.bind_eq_some_iff.mp h
  have h1 := (vl_some hx).1
  have h2 := (vl_some hy).1
  have h3 := (vl_some hz).1
  have h4 := (vl_some hu).1
  simp only [Option.some.injEq] at h
  omega
theorem dec_cons (a b c d : UInt8) (r : List UInt8) : dec (a :: b :: c :: d :: r) = (numL 0 [a, b, c, d]).bind fun n => (dec r).map fun l => UInt8.ofNat (n / 65536) :: UInt8.ofNat (n / 256 % 256) :: UInt8.ofNat (n % 256) :: l := by
  rw [num4]
  simp only [dec]
  cases vl a <;> simp
  cases vl b <;> simp
  cases vl c <;> simp
  cases vl d <;> simp
theorem cutI (n : Nat) (h : n < 16777216) : numsB [((n : Int) / 65536) % 256, ((n : Int) / 256) % 256, (n : Int) % 256] = [UInt8.ofNat (n / 65536), UInt8.ofNat (n / 256 % 256), UInt8.ofNat (n % 256)] := by
  simp only [numsB, List.map_cons, List.map_nil]
  rw [show (((n : Int) / 65536) % 256).toNat = n / 65536 by omega, show (((n : Int) / 256) % 256).toNat = n / 256 % 256 by omega, show ((n : Int) % 256).toNat = n % 256 by omega]
theorem dec_l0 (d : Nat) : ∀ (k : Nat) (l : List UInt8) (x4 : List Int), l.length % 4 = 0 → l.length = d → d + 8 < k → x4.length + 2 * d ≤ 140737488355000 →
    base64_Decode.l0 k (toB l) x4 = some (match dec l with | none => (⟨#[]⟩, 4) | some m => (toB (numsB x4 ++ m), 0)) := by
  induction d using Nat.strongRecOn with
  | _ d ih =>
  intro k l x4 h4 hd hk hx
  obtain ⟨k, rfl⟩ : ∃ m, k = m + 1 := ⟨k - 1, by omega⟩
  match l, h4, hd with
  | [], _, _ =>
    simp only [base64_Decode.l0]
    rw [if_pos (by rw [ByteArray.toList_eq, toB_data])]
    simp [dec, strOfNums_eq]
  | [_], h4, _ => simp at h4
  | [_, _], h4, _ => simp at h4
  | [_, _, _], h4, _ => simp at h4
  | a :: b :: c :: d0 :: r, h4, hd =>
    have hd' : r.length + 4 = d := by simpa using hd
    have hs : ((toB (a :: b :: c :: d0 :: r)).size : Int) = r.length + 4 := by rw [toB_size]; simp; omega
    simp only [base64_Decode.l0]
    rw [if_neg (by rw [ByteArray.toList_eq, toB_data]; simp), hs, if_pos (by omega), if_pos (by omega)]
    have hex1 : (toB (a :: b :: c :: d0 :: r)).extract 0 4 = toB [a, b, c, d0] := by rw [extract_toB, toB_data]; simp
    have hex2 : (toB (a :: b :: c :: d0 :: r)).extract 4 (toB (a :: b :: c :: d0 :: r)).size = toB r := by rw [extract_toB, toB_data, toB_size]; simp
    rw [hex1, hex2, base64_number_is [a, b, c, d0] (by simp) k (by simp only [List.length_cons, List.length_nil]; omega), dec_cons]
    simp only [Option.bind_some]
    cases hn : numL 0 [a, b, c, d0] with
    | none => simp
    | some n =>
      have hn1 := num4_lt _ _ _ _ _ hn
      simp only [if_true, Option.bind_some]
      rw [if_pos (by simp only [List.length_cons, List.length_nil]; omega), ih r.length (by omega) k r _ (by simp at h4; omega) rfl (by omega) (by simp only [List.length_append, List.length_cons, List.length_nil]; omega)]
      rw [numsB_app, cutI n hn1]
      cases dec r <;> simp
theorem base64_Decode_is (s : ByteArray) (k : Nat) (hk : s.size + 8 < k) : base64_Decode.f k s = some (if s.size > 131072 then ((⟨#[]⟩ : ByteArray), (3 : Int)) else if s.size % 4 = 0 then (match dec s.data.toList with | none => (⟨#[]⟩, 4) | some m => (toB m, 0)) else (⟨#[]⟩, 8)) := by
  unfold base64_Decode.f
  by_cases h1 : s.size > 131072
  · rw [if_pos (by omega), if_pos h1]
  · rw [if_neg (by omega), if_neg h1]
    by_cases h2 : s.size % 4 = 0
    · have hw1 : wrap64 ((s.size : Int) / 4) * 3 = (s.size : Int) / 4 * 3 := by rw [wrap_id (by omega) (by omega)]
      have hw : wrap64 (wrap64 ((s.size : Int) / 4) * 3) = (s.size : Int) / 4 * 3 := by rw [hw1, wrap_id (by omega) (by omega)]
      rw [if_pos (by omega), if_pos h2]
      rw [hw, if_pos (by omega), if_pos (by omega)]
      have hl : s.data.toList.length = s.size := data_len s
      have := dec_l0 s.size k s.data.toList [] (by rw [hl]; exact h2) hl hk (by simp only [List.length_nil]; omega)
      rw [toB_of] at this
      rw [this]
      rfl
    · rw [if_neg (by omega), if_neg h2]

/-! ### Primitives -/
theorem raw_nat (k : Int) : formRaw k = (rwN k : Int) := by
  unfold rwN
  have : 0 ≤ formRaw k := by unfold formRaw; repeat' split
                             all_goals omega
  omega
theorem code_size (k : Int) : (formCode k).size = (cdL k).length := (data_len _).symm
theorem code_toB (k : Int) : formCode k = toB (cdL k) := (toB_of _).symm
theorem lead_is (s : ByteArray) (k : Int) (hk : formOk k = true) : primitive_form_lead.f s (formRaw k) = some (ldN k : Int) := by
  obtain ⟨f1, f2, f3, f4, f5, f6, f7, f8, f9, f10⟩ := k_facts hk
  unfold primitive_form_lead.f
  rw [raw_nat]
  have e1 : Int.tmod (rwN k : Int) 3 = ((rwN k % 3 : Nat) : Int) := by rw [Int.tmod_eq_emod_of_nonneg (by omega)]; omega
  rw [e1, wrap_id (by omega) (by omega), Int.tmod_eq_emod_of_nonneg (by omega)]
  congr 1
  unfold ldN
  omega
theorem size_is (k : Int) (hk : formOk k = true) : primitive_form_size.f (formCode k) (formRaw k) = some (szN k : Int) := by
  obtain ⟨f1, f2, f3, f4, f5, f6, f7, f8, f9, f10⟩ := k_facts hk
  unfold primitive_form_size.f
  rw [lead_is _ k hk]
  simp only [Option.bind_some]
  rw [raw_nat, code_size]
  have e0 : wrap64 ((rwN k : Int) + (ldN k : Int)) = (rwN k : Int) + (ldN k : Int) := wrap_id (by omega) (by omega)
  have e1 : Int.tdiv ((rwN k : Int) + (ldN k : Int)) 3 = ((rwN k : Int) + (ldN k : Int)) / 3 := Int.tdiv_eq_ediv_of_nonneg (by omega)
  rw [e0, e1, wrap_id (n := ((rwN k : Int) + (ldN k : Int)) / 3) (by omega) (by omega), wrap_id (n := ((rwN k : Int) + (ldN k : Int)) / 3 * 4) (by omega) (by omega), wrap_id (n := ((cdL k).length : Int) + ((rwN k : Int) + (ldN k : Int)) / 3 * 4) (by omega) (by omega), wrap_id (by omega) (by omega)]
  congr 1
  omega
theorem repeat_is (c : UInt8) (n : Nat) (h : n ≤ 2) : strings_Repeat.f ⟨#[c]⟩ (n : Int) = some (toB (List.replicate n c)) := by
  unfold strings_Repeat.f
  have hs : (⟨#[c]⟩ : ByteArray).size = 1 := rfl
  rw [if_pos ⟨by omega, by omega, by rw [hs]; omega⟩]
  congr 1
  simp only [Int.toNat_natCast]
  unfold toB
  congr 2
  rcases (show n = 0 ∨ n = 1 ∨ n = 2 by omega) with rfl | rfl | rfl <;> rfl
theorem primitive_Encode_is (c : Int) (raw : ByteArray) (k : Nat) (hk : 700 < k) : primitive_Encode.f k c raw = some (toB (encP c raw.data.toList).1, (encP c raw.data.toList).2) := by
  unfold primitive_Encode.f encP
  by_cases h1 : formOk c = true
  · obtain ⟨f1, f2, f3, f4, f5, f6, f7, f8, f9, f10⟩ := k_facts h1
    rw [if_pos h1, if_pos h1]
    by_cases h2 : raw.size = rwN c
    · rw [if_pos (by rw [raw_nat]; omega), if_pos (by rw [data_len]; exact h2), lead_is _ c h1]
      simp only [Option.bind_some]
      rw [repeat_is 0 (ldN c) f1]
      simp only [Option.bind_some]
      have hl : (List.replicate (ldN c) (0 : UInt8) ++ raw.data.toList).length = ldN c + rwN c := by simp [h2]
      have hj : toB (List.replicate (ldN c) 0) ++ raw = toB (List.replicate (ldN c) 0 ++ raw.data.toList) := by rw [← toB_app, toB_of]
      rw [if_pos (by rw [toB_size]; simp; omega), hj, base64_Encode_is _ k (by rw [toB_size, hl]; omega)]
      have hz : (toB (List.replicate (ldN c) 0 ++ raw.data.toList)).size = ldN c + rwN c := by rw [toB_size, hl]
      have h3 : (List.replicate (ldN c) (0 : UInt8) ++ raw.data.toList).length % 3 = 0 := by rw [hl]; omega
      have hel := enc_len _ h3
      rw [hl] at hel
      rw [if_neg (by rw [hz]; omega), if_pos (by rw [hz]; omega)]
      simp only [Option.bind_some, toB_data, Int.toNat_natCast]
      have hes : (toB (enc (List.replicate (ldN c) 0 ++ raw.data.toList))).size = (ldN c + rwN c) / 3 * 4 := by rw [toB_size, hel]
      have hx : (toB (enc (List.replicate (ldN c) 0 ++ raw.data.toList))).extract (ldN c) (toB (enc (List.replicate (ldN c) 0 ++ raw.data.toList))).size = toB ((enc (List.replicate (ldN c) 0 ++ raw.data.toList)).drop (ldN c)) := by
        rw [extract_toB, toB_data, toB_size, List.take_length]
      rw [hx]
      rw [if_pos ⟨by omega, by rw [hes]; omega, by rw [code_size, toB_size, List.length_drop, hel]; omega⟩, code_toB, toB_app]
    · rw [if_neg (by rw [raw_nat]; omega), if_neg (by rw [data_len]; exact h2)]
      rfl
  · rw [if_neg h1, if_neg h1]
    rfl
theorem cutPrefix_is (t c : ByteArray) : strings_CutPrefix.f t c = some (if c.data.toList.isPrefixOf t.data.toList = true then (toB (t.data.toList.drop c.size), true) else (t, false)) := by
  have h := hasPrefix_is t c
  unfold strings_HasPrefix.f at h
  obtain ⟨b, hb, h2⟩ := Option.bind_eq_some_iff.mp h
  simp only [Option.some.injEq] at h2
  subst h2
  unfold strings_CutPrefix.f stringslite_CutPrefix.f
  rw [hb]
  simp only [Option.bind_some]
  unfold isPre
  by_cases hp : c.data.toList.isPrefixOf t.data.toList = true
  · rw [if_pos hp, if_pos hp]
    rw [List.isPrefixOf_iff_prefix] at hp
    have hlen := hp.length_le
    rw [data_len, data_len] at hlen
    rw [if_pos (by omega), if_pos (by omega)]
    simp only [Option.bind_some, Int.toNat_natCast]
    rw [extract_toB, show t.size = t.data.toList.length from (data_len t).symm, List.take_length]
  · rw [if_neg hp, if_neg hp]
    rfl
theorem primitive_Decode_is (t : ByteArray) (k : Nat) (hk : 900 < k) : primitive_Decode.f k t = some ((decP t.data.toList).1, toB (decP t.data.toList).2.1, (decP t.data.toList).2.2.1, (decP t.data.toList).2.2.2) := by
  unfold primitive_Decode.f primitive_begins.f decP
  rw [toB_of]
  simp only [Option.bind_some]
  by_cases h0 : codeOf t = 0
  · rw [if_pos h0]
    rw [if_neg (by simp [h0])]
    rfl
  · rw [if_neg h0, if_pos (by simp [h0])]
    have h1 : formOk (codeOf t) = true := by
      have := codeOf_is t
      rcases this with ⟨h, _⟩ | ⟨h, _⟩
      · exact absurd h h0
      · exact h
    obtain ⟨f1, f2, f3, f4, f5, f6, f7, f8, f9, f10⟩ := k_facts h1
    rw [size_is _ h1, lead_is _ _ h1]
    simp only [Option.bind_some]
    rw [code_size, data_len]
    generalize codeOf t = c at *
    by_cases h2 : t.size < szN c
    · rw [if_pos (by omega), if_pos h2]
      rfl
    · rw [if_neg (by omega), if_neg h2, repeat_is 0 _ f1, repeat_is 65 _ f1]
      simp only [Option.bind_some, Int.toNat_natCast]
      have hx : t.extract (cdL c).length (szN c) = toB ((t.data.toList.take (szN c)).drop (cdL c).length) := extract_toB _ _ _
      have hxl : ((t.data.toList.take (szN c)).drop (cdL c).length).length = szN c - (cdL c).length := by simp; omega
      rw [hx, toB_app, if_pos (by omega), if_pos (by omega), if_pos (by omega), if_pos (by rw [toB_size, toB_size, hxl]; simp; omega)]
      have hz : (toB (List.replicate (ldN c) 65 ++ (t.data.toList.take (szN c)).drop (cdL c).length)).size = ldN c + (szN c - (cdL c).length) := by rw [toB_size, List.length_append, hxl]; simp
      rw [base64_Decode_is _ k (by rw [hz]; omega), if_neg (by rw [hz]; omega), if_pos (by rw [hz]; omega), toB_data]
      cases hd : dec (List.replicate (ldN c) 65 ++ (t.data.toList.take (szN c)).drop (cdL c).length) with
      | none =>
        simp only [Option.bind_some]
        rw [cutPrefix_is]
        simp only [Option.bind_some]
        rw [if_neg (by omega)]
        rfl
      | some all =>
        simp only [Option.bind_some]
        rw [cutPrefix_is, toB_data, toB_data]
        simp only [Option.bind_some, if_true]
        by_cases hp : (List.replicate (ldN c) (0 : UInt8)).isPrefixOf all = true
        · rw [if_pos hp, if_pos hp]
          simp only [Option.bind_some, if_true]
          rw [toB_size]
          simp
        · rw [if_neg hp, if_neg hp]
          simp only [Option.bind_some]
          rw [if_neg (by simp)]
          rfl
end Go.Proofs.Ytookjdhfpbmjkaa.Pure
