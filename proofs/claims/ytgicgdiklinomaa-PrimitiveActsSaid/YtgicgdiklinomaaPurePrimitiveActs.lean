/- Of every primitive and every text, the program's functions return what the document's do. For every list of numbers, primitive, text and three numbers, as they come in. -/
import Derived.Test.YtgicgdiklinomaaFacts03b
import Derived.Test.YtgicgdiklinomaaActsA
import Derived.Test.YtgicgdiklinomaaX0
import Derived.Test.YtgicgdiklinomaaX13
import Derived.Test.YtgicgdiklinomaaX14
import Derived.Test.YtgicgdiklinomaaX15
import Derived.Test.YtgicgdiklinomaaX16
import Derived.Test.YtgicgdiklinomaaX17
import Derived.Test.YtgicgdiklinomaaX18
import Derived.Test.YtgicgdiklinomaaX19
import Derived.Test.YtgicgdiklinomaaX2
import Derived.Test.YtgicgdiklinomaaX5
import Derived.Test.YtgicgdiklinomaaX6
import Derived.Test.YtgicgdiklinomaaX7
import Derived.Test.YtgicgdiklinomaaX8
namespace Go.Proofs.Ytgicgdiklinomaa.Pure
open Go.RowKit Go.Proofs.Ytgicgdiklinomaa.X Go.Proofs.YtgicgdiklinomaaW.PrintWords Go.Proofs.YtgicgdiklinomaaW.PrintLast
set_option linter.unusedVariables false
set_option linter.unusedSimpArgs false


theorem kwrap_id {n : Int} (h0 : -9223372036854775808 ≤ n) (h1 : n ≤ 9223372036854775807) : wrap64 n = n := by unfold wrap64; omega
theorem mod_is (a n : Int) (hn : 1 ≤ n) (hn2 : n ≤ 4294967296) : keyeventkit_Mod.f a n = some (a % n) := by
  unfold keyeventkit_Mod.f
  rw [if_neg (by omega), if_neg (by omega)]
  have h1 : Int.tmod a n < n := Int.tmod_lt_of_pos a (by omega)
  have h2 : -n < Int.tmod a n := by have := Int.lt_tmod_of_pos a (show 0 < n by omega); omega
  have h3 := Int.mul_tdiv_add_tmod a n
  rw [kwrap_id (by omega) (by omega), Int.tmod_eq_emod_of_nonneg (by omega)]
  congr 1
  rw [Int.add_emod_right]
  conv => rhs; rw [← h3]
  rw [Int.mul_add_emod_self_left]
theorem next_is (l : List Int) (hl : l.length ≤ 500) (i n : Int) (h0 : 0 ≤ i) (h1 : i ≤ l.length) (hn : 1 ≤ n) (hn2 : n ≤ 4294967296) :
    ∃ r j, keyeventkit_Dice_Next.f l i n = some (r, j) ∧ 0 ≤ r ∧ r < n ∧ 0 ≤ j ∧ j ≤ l.length := by
  unfold keyeventkit_Dice_Next.f
  by_cases h : i ≥ (l.length : Int)
  · rw [if_pos h]
    exact ⟨0, i, rfl, by omega, by omega, h0, h1⟩
  · rw [if_neg h, kwrap_id (n := i + 1) (by omega) (by omega), kwrap_id (n := i + 1 - 1) (by omega) (by omega), if_pos (by omega), if_pos (by omega), mod_is _ n hn hn2]
    exact ⟨_, _, rfl, Int.emod_nonneg _ (by omega), Int.emod_lt_of_pos _ (by omega), by omega, by omega⟩
theorem bytes_l0 (l : List Int) (hl : l.length ≤ 500) (d : Nat) : ∀ (k : Nat) (x : List Int) (n i at_ : Int), n - i = d → 0 ≤ i → n ≤ 100 → d < k → x.length = i → 0 ≤ at_ → at_ ≤ l.length →
    ∃ r j, keyeventkit_Dice_Bytes.l0 k x n i l at_ = some (r, j) ∧ (r.size : Int) = n ∧ 0 ≤ j ∧ j ≤ l.length := by
  induction d with
  | zero =>
    intro k x n i at_ hd hi hn hk hx h0 h1
    obtain ⟨k, rfl⟩ : ∃ m, k = m + 1 := ⟨k - 1, by omega⟩
    simp only [keyeventkit_Dice_Bytes.l0]
    rw [if_neg (by omega)]
    exact ⟨_, _, rfl, by rw [strOfNums_eq, toB_size]; simp [numsB]; omega, h0, h1⟩
  | succ d ih =>
    intro k x n i at_ hd hi hn hk hx h0 h1
    obtain ⟨k, rfl⟩ : ∃ m, k = m + 1 := ⟨k - 1, by omega⟩
    obtain ⟨r, j, hr, _, _, hj0, hj1⟩ := next_is l hl at_ 256 h0 h1 (by omega) (by omega)
    simp only [keyeventkit_Dice_Bytes.l0]
    rw [if_pos (by omega), hr]
    simp only [Option.bind_some]
    rw [if_pos (by omega), kwrap_id (by omega) (by omega)]
    exact ih k _ n (i + 1) j (by omega) (by omega) hn (by omega) (by simp; omega) hj0 hj1
theorem bytes_is (l : List Int) (hl : l.length ≤ 500) (k : Nat) (n at_ : Int) (hk : 100 < k) (h : 0 ≤ n) (hn : n ≤ 100) (h0 : 0 ≤ at_) (h1 : at_ ≤ l.length) :
    ∃ r j, keyeventkit_Dice_Bytes.f k l at_ n = some (r, j) ∧ (r.size : Int) = n ∧ 0 ≤ j ∧ j ≤ l.length := by
  unfold keyeventkit_Dice_Bytes.f
  exact bytes_l0 l hl n.toNat k [] n 0 at_ (by omega) (by omega) hn (by omega) rfl h0 h1
theorem refRaw_is (c : Int) (h1 : 1 ≤ c) (h2 : c ≤ 8) : keyeventref03_Raw.f c = some (formRaw c) := by
  have : c = 1 ∨ c = 2 ∨ c = 3 ∨ c = 4 ∨ c = 5 ∨ c = 6 ∨ c = 7 ∨ c = 8 := by omega
  rcases this with rfl | rfl | rfl | rfl | rfl | rfl | rfl | rfl <;> rfl
theorem pad_l0 (d : Nat) : ∀ (k : Nat) (n : Int) (s : ByteArray) (l : List Int) (at_ c : Int) (z : ByteArray), n - s.size ≤ d → (s.size : Int) ≤ n → n ≤ 10000 → d < k →
    ∃ r, keyeventkit_Primitive.l0 k n s l at_ c z = some (c, r, at_) ∧ (r.size : Int) = n := by
  induction d with
  | zero =>
    intro k n s l at_ c z hd hs hn hk
    obtain ⟨k, rfl⟩ : ∃ m, k = m + 1 := ⟨k - 1, by omega⟩
    simp only [keyeventkit_Primitive.l0]
    rw [if_neg (by omega)]
    exact ⟨_, rfl, by omega⟩
  | succ d ih =>
    intro k n s l at_ c z hd hs hn hk
    obtain ⟨k, rfl⟩ : ∃ m, k = m + 1 := ⟨k - 1, by omega⟩
    simp only [keyeventkit_Primitive.l0]
    by_cases h : (s.size : Int) < n
    · rw [if_pos h, if_pos (by omega)]
      have hz : (s ++ (⟨#[7]⟩ : ByteArray)).size = s.size + 1 := by rw [ByteArray.size_append]; rfl
      exact ih k n _ l at_ c z (by omega) (by omega) hn (by omega)
    · rw [if_neg h]
      exact ⟨_, rfl, by omega⟩
theorem formRaw_bd (c : Int) (h1 : 1 ≤ c) (h2 : c ≤ 8) : 2 ≤ formRaw c ∧ formRaw c ≤ 626 := by
  have : c = 1 ∨ c = 2 ∨ c = 3 ∨ c = 4 ∨ c = 5 ∨ c = 6 ∨ c = 7 ∨ c = 8 := by omega
  rcases this with rfl | rfl | rfl | rfl | rfl | rfl | rfl | rfl <;> decide
theorem mn_is (a b : Int) : mn a b = min a b := by unfold mn; omega
theorem prim_j0 (l : List Int) (hl : l.length ≤ 500) (k : Nat) (n at_ c : Int) (z : ByteArray) (hk : 1000 < k) (h : 0 ≤ n) (hn : n ≤ 700) (h0 : 0 ≤ at_) (h1 : at_ ≤ l.length) :
    ∃ r j, keyeventkit_Primitive.j0 k n l at_ c z = some (c, r, j) ∧ 0 ≤ j ∧ j ≤ l.length := by
  obtain ⟨k, rfl⟩ : ∃ m, k = m + 1 := ⟨k - 1, by omega⟩
  obtain ⟨r, j, hr, hs, hj0, hj1⟩ := bytes_is l hl k (mn n 8) at_ (by omega) (by rw [mn_is]; omega) (by rw [mn_is]; omega) h0 h1
  simp only [keyeventkit_Primitive.j0]
  rw [hr]
  simp only [Option.bind_some]
  rw [mn_is] at hs
  obtain ⟨r2, hr2, _⟩ := pad_l0 700 k n r l j c z (by omega) (by omega) (by omega) (by omega)
  exact ⟨r2, j, hr2, hj0, hj1⟩
/-- A primitive is drawn: its code is one of the eight. -/
theorem prim_is (l : List Int) (hl : l.length ≤ 500) (at_ : Int) (h0 : 0 ≤ at_) (h1 : at_ ≤ l.length) (k : Nat) (hk : 1000 < k) :
    ∃ c r j, keyeventkit_Primitive.f k l at_ = some (c, r, j) ∧ 1 ≤ c ∧ c ≤ 8 ∧ 0 ≤ j ∧ j ≤ l.length := by
  obtain ⟨c0, j1, e1, a1, a2, a3, a4⟩ := next_is l hl at_ 8 h0 h1 (by omega) (by omega)
  obtain ⟨m, j2, e2, b1, b2, b3, b4⟩ := next_is l hl j1 12 a3 a4 (by omega) (by omega)
  have hw : wrap64 (1 + c0) = 1 + c0 := kwrap_id (by omega) (by omega)
  have hb := formRaw_bd (1 + c0) (by omega) (by omega)
  unfold keyeventkit_Primitive.f
  rw [e1]
  simp only [Option.bind_some]
  rw [hw, refRaw_is _ (by omega) (by omega)]
  simp only [Option.bind_some]
  rw [e2]
  simp only [Option.bind_some]
  by_cases hm : m = 1
  · rw [if_pos hm]
    obtain ⟨q, j3, e3, d1, d2, d3, d4⟩ := next_is l hl j2 3 b3 b4 (by omega) (by omega)
    rw [e3]
    simp only [Option.bind_some]
    rw [kwrap_id (n := q - 1) (by omega) (by omega), kwrap_id (by omega) (by omega)]
    obtain ⟨r, j, hr, g0, g1⟩ := prim_j0 l hl k (formRaw (1 + c0) + (q - 1)) j3 (1 + c0) ⟨#[]⟩ hk (by omega) (by omega) d3 d4
    exact ⟨_, r, j, hr, by omega, by omega, g0, g1⟩
  · rw [if_neg hm]
    obtain ⟨r, j, hr, g0, g1⟩ := prim_j0 l hl k (formRaw (1 + c0)) j2 (1 + c0) ⟨#[]⟩ hk (by omega) (by omega) b3 b4
    exact ⟨_, r, j, hr, by omega, by omega, g0, g1⟩
theorem spoil_is (s : ByteArray) (a b : Int) (hs : s.size ≤ 4294967296) : ∃ r, keyeventkit_Spoil.f s a b = some r ∧ r.size = s.size := by
  unfold keyeventkit_Spoil.f
  by_cases h : s.toList = []
  · rw [if_pos h]; exact ⟨_, rfl, rfl⟩
  · have hz : s.size ≠ 0 := fun hz => h (by rw [ByteArray.toList_eq]; exact data_nil.2 hz)
    rw [if_neg h, mod_is _ _ (by omega) (by omega)]
    simp only [Option.bind_some]
    have h1 := Int.emod_nonneg a (show (s.size : Int) ≠ 0 by omega)
    have h2 := Int.emod_lt_of_pos a (show (0 : Int) < s.size by omega)
    rw [if_pos ⟨h1, h2⟩]
    exact ⟨_, rfl, by rw [strOfNums_eq, toB_size]; simp [numsB, numsOf]⟩

theorem renc_l0 (l : List UInt8) (hl : l.length ≤ 65536) (h3 : l.length % 3 = 0) (d : Nat) : ∀ (k i : Nat) (x4 : List Int), l.length - i = d → i ≤ l.length → i % 3 = 0 → d < k → x4.length + 2 * d ≤ 140737488355000 →
    keyeventref01_Encode.l0 k (toB l) x4 (i : Int) = some (toB (numsB x4 ++ enc (l.drop i)), 0) := by
  induction d using Nat.strongRecOn with
  | _ d ih =>
  intro k i x4 hd hi hi3 hk hx
  obtain ⟨k, rfl⟩ : ∃ m, k = m + 1 := ⟨k - 1, by omega⟩
  by_cases he : i = l.length
  · subst he
    simp only [keyeventref01_Encode.l0]
    rw [if_neg (by rw [toB_size]; omega), List.drop_length]
    simp [enc, strOfNums_eq]
  · have hlt : i + 2 < l.length := by omega
    have e0 : (i : Int) = ((i : Nat) : Int) := rfl
    have hd1 : l.drop i = l[i] :: l[i + 1] :: l[i + 2] :: l.drop (i + 3) := by
      rw [List.drop_eq_getElem_cons (by omega), List.drop_eq_getElem_cons (by omega), List.drop_eq_getElem_cons (by omega)]
    have w1 : wrap64 ((i : Int) + 1) = ((i + 1 : Nat) : Int) := by rw [wrap_id (by omega) (by omega)]; omega
    have w2 : wrap64 ((i : Int) + 2) = ((i + 2 : Nat) : Int) := by rw [wrap_id (by omega) (by omega)]; omega
    have w3 : wrap64 ((i : Int) + 3) = ((i + 3 : Nat) : Int) := by rw [wrap_id (by omega) (by omega)]; omega
    have b0 : bt (toB l) (i : Int) = ((l[i]).toNat : Int) := by rw [byteAt]; simp [List.getD, show i < l.length by omega]
    have b1 : bt (toB l) ((i + 1 : Nat) : Int) = ((l[i + 1]).toNat : Int) := by rw [byteAt]; simp [List.getD, show i + 1 < l.length by omega]
    have b2 : bt (toB l) ((i + 2 : Nat) : Int) = ((l[i + 2]).toNat : Int) := by rw [byteAt]; simp [List.getD, show i + 2 < l.length by omega]
    have hs : ((toB l).size : Int) = l.length := by rw [toB_size]
    have hj := join3 l[i] l[i + 1] l[i + 2]
    simp only [keyeventref01_Encode.l0]
    rw [w1, w2, w3, b0, b1, b2, hj, hs]
    have hn1 := small3 l[i] l[i + 1] l[i + 2]
    rw [hd1]
    clear b0 b1 b2 hj
    obtain ⟨n, hn⟩ : ∃ n, (l[i]).toNat * 65536 + (l[i + 1]).toNat * 256 + (l[i + 2]).toNat = n := ⟨_, rfl⟩
    rw [hn] at hn1 ⊢
    rw [cut1 n hn1, cut2 n hn1, cut3 n hn1, cut4 n hn1]
    rw [if_pos (by omega), if_pos (by omega), if_pos (by omega), if_pos (by omega), if_pos (by omega), if_pos (by omega), if_pos (natI _), if_pos (natL (lt64a n hn1)), if_pos (natI _), if_pos (natL (lt64b _)), if_pos (natI _), if_pos (natL (lt64b _)), if_pos (natI _), if_pos (natL (lt64b _))]
    rw [alpha_at _ (lt64a n hn1), alpha_at _ (lt64b _), alpha_at _ (lt64b _), alpha_at _ (lt64b _)]
    simp only [Option.bind_some]
    rw [if_pos (by simp only [List.length_cons, List.length_nil]; omega)]
    rw [ih (l.length - (i + 3)) (by omega) k (i + 3) _ rfl (by omega) (by omega) (by omega) (by simp only [List.length_append, List.length_cons, List.length_nil]; omega)]
    rw [numsB_app, List.append_assoc]
    simp only [numsB, List.map_cons, List.map_nil, ofNat_toNat_int, List.cons_append, List.nil_append, enc, hn]
theorem ref01_Encode_is (s : ByteArray) (k : Nat) (hk : s.size < k) : keyeventref01_Encode.f k s = some (if s.size > 65536 then (⟨#[]⟩, 3) else if s.size % 3 = 0 then (toB (enc s.data.toList), 0) else (⟨#[]⟩, 8)) := by
  unfold keyeventref01_Encode.f
  by_cases h1 : s.size > 65536
  · rw [if_pos (by omega), if_pos h1]
  · rw [if_neg (by omega), if_neg h1]
    by_cases h2 : s.size % 3 = 0
    · rw [if_pos (by omega), if_pos h2]
      have hl : s.data.toList.length = s.size := data_len s
      have := renc_l0 s.data.toList (by omega) (by rw [hl]; exact h2) s.size k 0 [] (by omega) (by omega) (by omega) hk (by simp only [List.length_nil]; omega)
      rw [toB_of] at this
      exact this
    · rw [if_neg (by omega), if_neg h2]
theorem rvalue_all : ∀ m : Fin 256, keyeventref01_Value.f 70 (m.1 : Int) = some (match vl (UInt8.ofNat m.1) with | none => (0, false) | some n => ((n : Int), true)) := by decide +kernel
theorem rvalue_is (c : UInt8) (k : Nat) (hk : 70 ≤ k) : keyeventref01_Value.f k (c.toNat : Int) = some (match vl c with | none => (0, false) | some n => ((n : Int), true)) := by
  have h0 := rvalue_all ⟨c.toNat, c.toNat_lt⟩
  simp only [UInt8.ofNat_toNat] at h0
  obtain ⟨m, rfl⟩ : ∃ m, k = 70 + m := ⟨k - 70, by omega⟩
  clear hk
  induction m with
  | zero => exact h0
  | succ m ih => exact keyeventref01_Value.mono _ _ _ ih
theorem rdec_step (l : List UInt8) (hl : l.length ≤ 131072) (x4 : List Int) (i j acc k : Nat) (hj : j < 4) (hi : i + j < l.length) (hk : 70 ≤ k) (ha : acc < 64 ^ j) :
    keyeventref01_Decode.l1 (k + 1) (toB l) x4 (i : Int) (acc : Int) (j : Int) = (match vl l[i + j] with | none => some (⟨#[]⟩, 4) | some x => keyeventref01_Decode.l1 k (toB l) x4 (i : Int) ((acc * 64 + x : Nat) : Int) ((j + 1 : Nat) : Int)) := by
  simp only [keyeventref01_Decode.l1]
  have w1 : wrap64 ((i : Int) + (j : Int)) = ((i + j : Nat) : Int) := by rw [wrap_id (by omega) (by omega)]; omega
  have w2 : wrap64 ((j : Int) + 1) = ((j + 1 : Nat) : Int) := by rw [wrap_id (by omega) (by omega)]; omega
  have b0 : bt (toB l) ((i + j : Nat) : Int) = ((l[i + j]).toNat : Int) := by rw [byteAt]; simp [List.getD, hi]
  rw [w1, w2, b0, if_pos (by omega), if_pos (by omega), if_pos (by rw [toB_size]; omega), rvalue_is _ k hk]
  simp only [Option.bind_some]
  cases hv : vl l[i + j] with
  | none => simp
  | some x =>
    obtain ⟨hx, _⟩ := vl_some hv
    simp only [if_true]
    rw [or6 acc x j (by omega) ha hx]
theorem rdec_l0 (l : List UInt8) (hl : l.length ≤ 131072) (h4 : l.length % 4 = 0) (d : Nat) : ∀ (k i : Nat) (x4 : List Int), l.length - i = d → i ≤ l.length → i % 4 = 0 → 2 * d + 80 < k → x4.length + 2 * d ≤ 140737488355000 →
    keyeventref01_Decode.l0 k (toB l) x4 (i : Int) = some (match dec (l.drop i) with | none => (⟨#[]⟩, 4) | some m => (toB (numsB x4 ++ m), 0)) := by
  induction d using Nat.strongRecOn with
  | _ d ih =>
  intro k i x4 hd hi hi4 hk hx
  obtain ⟨k, rfl⟩ : ∃ m, k = m + 1 := ⟨k - 1, by omega⟩
  by_cases he : i = l.length
  · subst he
    simp only [keyeventref01_Decode.l0]
    rw [if_neg (by rw [toB_size]; omega), List.drop_length]
    simp [dec, strOfNums_eq]
  · have hlt : i + 3 < l.length := by omega
    have hd1 : l.drop i = l[i] :: l[i + 1] :: l[i + 2] :: l[i + 3] :: l.drop (i + 4) := by
      rw [List.drop_eq_getElem_cons (by omega), List.drop_eq_getElem_cons (by omega), List.drop_eq_getElem_cons (by omega), List.drop_eq_getElem_cons (by omega)]
    obtain ⟨k, rfl⟩ : ∃ m, k = m + 5 := ⟨k - 5, by omega⟩
    simp only [keyeventref01_Decode.l0]
    rw [if_pos (by rw [toB_size]; omega), hd1, dec_cons, num4]
    have s0 := rdec_step l hl x4 i 0 0 (k + 4) (by omega) (by omega) (by omega) (by simp)
    simp only [Nat.add_zero, Nat.zero_mul, Nat.zero_add, Int.natCast_zero] at s0
    have s0' : keyeventref01_Decode.l1 (k + 5) (toB l) x4 (i : Int) 0 0 = _ := s0
    rw [s0']
    clear s0 s0'
    cases h0 : vl l[i] with
    | none => simp
    | some a =>
      have ha := (vl_some h0).1
      simp only [Option.bind_some]
      rw [rdec_step l hl x4 i 1 a (k + 3) (by omega) (by omega) (by omega) (by simpa using ha)]
      cases h1 : vl l[i + 1] with
      | none => simp
      | some b =>
        have hb := (vl_some h1).1
        simp only [Option.bind_some]
        rw [rdec_step l hl x4 i 2 (a * 64 + b) (k + 2) (by omega) (by omega) (by omega) (by omega)]
        cases h2 : vl l[i + 2] with
        | none => simp
        | some c =>
          have hc := (vl_some h2).1
          simp only [Option.bind_some]
          rw [rdec_step l hl x4 i 3 ((a * 64 + b) * 64 + c) (k + 1) (by omega) (by omega) (by omega) (by omega)]
          cases h3 : vl l[i + 3] with
          | none => simp
          | some e =>
            have he := (vl_some h3).1
            simp only [Option.bind_some]
            obtain ⟨n, hn⟩ : ∃ n, ((a * 64 + b) * 64 + c) * 64 + e = n := ⟨_, rfl⟩
            have hn1 : n < 16777216 := by omega
            have hn2 : a * 262144 + b * 4096 + c * 64 + e = n := by omega
            rw [hn, hn2]
            simp only [keyeventref01_Decode.l1]
            have w3 : wrap64 ((i : Int) + 4) = ((i + 4 : Nat) : Int) := by rw [wrap_id (by omega) (by omega)]; omega
            rw [if_neg (by omega), w3]
            simp only [Option.bind_some]
            rw [if_pos (by simp only [List.length_cons, List.length_nil]; omega), ih (l.length - (i + 4)) (by omega) k (i + 4) _ rfl (by omega) (by omega) (by omega) (by simp only [List.length_append, List.length_cons, List.length_nil]; omega)]
            rw [numsB_app, cutI n hn1]
            cases dec (l.drop (i + 4)) <;> simp
theorem ref01_Decode_is (s : ByteArray) (k : Nat) (hk : 2 * s.size + 80 < k) : keyeventref01_Decode.f k s = some (if s.size > 131072 then ((⟨#[]⟩ : ByteArray), (3 : Int)) else if s.size % 4 = 0 then (match dec s.data.toList with | none => (⟨#[]⟩, 4) | some m => (toB m, 0)) else (⟨#[]⟩, 8)) := by
  unfold keyeventref01_Decode.f
  by_cases h1 : s.size > 131072
  · rw [if_pos (by omega), if_pos h1]
  · rw [if_neg (by omega), if_neg h1]
    by_cases h2 : s.size % 4 = 0
    · rw [if_pos (by omega), if_pos h2]
      have hl : s.data.toList.length = s.size := data_len s
      have := rdec_l0 s.data.toList (by omega) (by rw [hl]; exact h2) s.size k 0 [] (by omega) (by omega) (by omega) hk (by simp only [List.length_nil]; omega)
      rw [toB_of] at this
      exact this
    · rw [if_neg (by omega), if_neg h2]

/-! ### Primitives -/
theorem rcode_is (c : Int) : keyeventref03_Code.f c = some (formCode c, formOk c) := by
  by_cases h : 1 ≤ c ∧ c ≤ 8
  · have : c = 1 ∨ c = 2 ∨ c = 3 ∨ c = 4 ∨ c = 5 ∨ c = 6 ∨ c = 7 ∨ c = 8 := by omega
    rcases this with rfl | rfl | rfl | rfl | rfl | rfl | rfl | rfl <;> rfl
  · have h1 : formOk c = false := by
      cases hk : formOk c with
      | false => rfl
      | true => exact absurd ((formOk_iff c).1 hk) h
    have h2 : formCode c = ⟨#[]⟩ := by
      unfold formCode
      rw [if_neg (by omega), if_neg (by omega), if_neg (by omega), if_neg (by omega), if_neg (by omega), if_neg (by omega), if_neg (by omega), if_neg (by omega)]
    unfold keyeventref03_Code.f
    rw [h1, h2]
    by_cases h3 : c < 1
    · rw [if_pos h3]
    · rw [if_neg h3, if_pos (by omega)]
theorem rraw_is (c : Int) : keyeventref03_Raw.f c = some (formRaw c) := by
  by_cases h : 1 ≤ c ∧ c ≤ 8
  · have : c = 1 ∨ c = 2 ∨ c = 3 ∨ c = 4 ∨ c = 5 ∨ c = 6 ∨ c = 7 ∨ c = 8 := by omega
    rcases this with rfl | rfl | rfl | rfl | rfl | rfl | rfl | rfl <;> rfl
  · have h2 : formRaw c = 0 := by
      unfold formRaw
      rw [if_neg (by omega), if_neg (by omega), if_neg (by omega), if_neg (by omega), if_neg (by omega), if_neg (by omega), if_neg (by omega), if_neg (by omega)]
    unfold keyeventref03_Raw.f
    rw [h2]
    by_cases h3 : c < 1
    · rw [if_pos h3]
    · rw [if_neg h3, if_pos (by omega)]
theorem rlead_is (c : Int) (h : formOk c = true) : keyeventref03_lead.f c = some (ldN c : Int) := by
  rcases k_cases h with rfl | rfl | rfl | rfl | rfl | rfl | rfl | rfl <;> decide +kernel
theorem rsize_is (c : Int) : keyeventref03_Size.f c = some (if formOk c = true then (szN c : Int) else 0) := by
  by_cases h : formOk c = true
  · rw [if_pos h]
    rcases k_cases h with rfl | rfl | rfl | rfl | rfl | rfl | rfl | rfl <;> decide +kernel
  · rw [if_neg h]
    unfold keyeventref03_Size.f
    rw [rcode_is]
    simp only [Option.bind_some]
    rw [if_neg h]
theorem zeros_cut (n : Nat) (h : n ≤ 2) : (⟨#[0, 0]⟩ : ByteArray).extract 0 ((n : Int)).toNat = toB (List.replicate n 0) := by
  rcases (show n = 0 ∨ n = 1 ∨ n = 2 by omega) with rfl | rfl | rfl <;> rfl
theorem as_cut (n : Nat) (h : n ≤ 2) : (⟨#[65, 65]⟩ : ByteArray).extract 0 ((n : Int)).toNat = toB (List.replicate n 65) := by
  rcases (show n = 0 ∨ n = 1 ∨ n = 2 by omega) with rfl | rfl | rfl <;> rfl
theorem ref03_Encode_is (c : Int) (raw : ByteArray) (k : Nat) (hk : 700 < k) : keyeventref03_Encode.f k c raw = some (toB (encP c raw.data.toList).1, (encP c raw.data.toList).2) := by
  unfold keyeventref03_Encode.f encP
  rw [rcode_is, rraw_is]
  simp only [Option.bind_some]
  by_cases h1 : formOk c = true
  · obtain ⟨f1, f2, f3, f4, f5, f6, f7, f8, f9, f10⟩ := k_facts h1
    rw [if_pos h1, if_pos h1]
    by_cases h2 : raw.size = rwN c
    · rw [if_pos (by rw [raw_nat]; omega), if_pos (by rw [data_len]; exact h2), rlead_is c h1]
      simp only [Option.bind_some]
      rw [if_pos (by omega), if_pos (by omega), zeros_cut _ f1]
      have hl : (List.replicate (ldN c) (0 : UInt8) ++ raw.data.toList).length = ldN c + rwN c := by simp [h2]
      have hj : toB (List.replicate (ldN c) 0) ++ raw = toB (List.replicate (ldN c) 0 ++ raw.data.toList) := by rw [← toB_app, toB_of]
      rw [if_pos (by rw [toB_size]; simp; omega), hj, ref01_Encode_is _ k (by rw [toB_size, hl]; omega)]
      have hz : (toB (List.replicate (ldN c) 0 ++ raw.data.toList)).size = ldN c + rwN c := by rw [toB_size, hl]
      have h3 : (List.replicate (ldN c) (0 : UInt8) ++ raw.data.toList).length % 3 = 0 := by rw [hl]; omega
      have hel := enc_len _ h3
      rw [hl] at hel
      rw [if_neg (by rw [hz]; omega), if_pos (by rw [hz]; omega)]
      simp only [Option.bind_some, toB_data, Int.toNat_natCast]
      have hes : (toB (enc (List.replicate (ldN c) 0 ++ raw.data.toList))).size = (ldN c + rwN c) / 3 * 4 := by rw [toB_size, hel]
      have hx : (toB (enc (List.replicate (ldN c) 0 ++ raw.data.toList))).extract (ldN c) (toB (enc (List.replicate (ldN c) 0 ++ raw.data.toList))).size = toB ((enc (List.replicate (ldN c) 0 ++ raw.data.toList)).drop (ldN c)) := by
        rw [extract_toB, toB_data, toB_size, List.take_length]
      rw [hx]
      rw [if_pos (by rw [hes]; omega), if_pos (by rw [code_size, toB_size, List.length_drop, hel]; omega), code_toB, toB_app]
    · rw [if_neg (by rw [raw_nat]; omega), if_neg (by rw [data_len]; exact h2)]
      rfl
  · rw [if_neg h1, if_neg h1]
    rfl
theorem rpre (t : ByteArray) (c : Int) : isPre t (formCode c) = true ↔ (cdL c).length ≤ t.size ∧ t.data.toList.take (cdL c).length = cdL c := by
  unfold isPre
  rw [List.isPrefixOf_iff_prefix, List.prefix_iff_eq_take]
  constructor
  · intro h
    have h2 : (t.data.toList.take (cdL c).length) = cdL c := h.symm
    refine ⟨?_, h2⟩
    have := congrArg List.length h2
    rw [List.length_take, data_len] at this
    omega
  · rintro ⟨_, h⟩
    exact h.symm
/-- The look at one code. -/
theorem rlook (t : ByteArray) (c : Int) (hk : formOk c = true) (k : Nat) : keyeventref03_Decode.l0 (k + 1) t c = keyeventref03_Decode.j1 k t c (formCode c) (!(isPre t (formCode c))) := by
  have hc := (formOk_iff c).1 hk
  simp only [keyeventref03_Decode.l0]
  rw [if_pos (by omega), rcode_is]
  simp only [Option.bind_some]
  rw [code_size]
  have hp := rpre t c
  by_cases h1 : t.size < (cdL c).length
  · rw [if_pos (by omega)]
    have : isPre t (formCode c) = false := by
      cases hq : isPre t (formCode c) with
      | false => rfl
      | true => have := (hp.1 hq).1; omega
    rw [this]
    rfl
  · rw [if_neg (by omega), if_pos (by omega), if_pos (by omega)]
    congr 1
    rw [Int.toNat_natCast, extract_toB, List.drop_zero, ByteArray.toList_eq, toB_data, ByteArray.toList_eq]
    by_cases h2 : isPre t (formCode c) = true
    · rw [h2, (hp.1 h2).2]
      simp [cdL]
    · have h3 : ¬ (t.data.toList.take (cdL c).length = (formCode c).data.toList) := fun h => h2 (hp.2 ⟨by omega, h⟩)
      have h4 : isPre t (formCode c) = false := by simpa using h2
      rw [h4]
      simpa using h3
theorem rskip (t : ByteArray) (c : Int) (hk : formOk c = true) (hn : isPre t (formCode c) = false) (k : Nat) : keyeventref03_Decode.l0 (k + 2) t c = keyeventref03_Decode.l0 k t (c + 1) := by
  have hc := (formOk_iff c).1 hk
  rw [rlook t c hk, hn]
  simp only [keyeventref03_Decode.j1, Bool.not_false, if_true]
  rw [wrap_id (by omega) (by omega)]
theorem rskips (t : ByteArray) (n : Nat) : ∀ (c : Int) (k : Nat), 1 ≤ c → c + n ≤ 9 → (∀ x : Int, c ≤ x → x < c + n → isPre t (formCode x) = false) → keyeventref03_Decode.l0 (k + 2 * n) t c = keyeventref03_Decode.l0 k t (c + n) := by
  induction n with
  | zero => intro c k _ _ _; simp
  | succ n ih =>
    intro c k h1 h2 h3
    have := rskip t c ((formOk_iff c).2 ⟨h1, by omega⟩) (h3 c (by omega) (by omega)) (k + 2 * n)
    rw [show k + 2 * (n + 1) = k + 2 * n + 2 by omega, this, ih (c + 1) k (by omega) (by omega) (fun x hx hy => h3 x (by omega) (by omega))]
    rw [show c + 1 + (n : Int) = c + ((n + 1 : Nat) : Int) by omega]
theorem ref03_Decode_is (t : ByteArray) (k : Nat) (hk : 3000 < k) : keyeventref03_Decode.f k t = some ((decP t.data.toList).1, toB (decP t.data.toList).2.1, (decP t.data.toList).2.2.1, (decP t.data.toList).2.2.2) := by
  unfold keyeventref03_Decode.f decP
  rw [toB_of]
  rcases codeOf_is t with ⟨h0, hn⟩ | ⟨h1, hp⟩
  · rw [if_pos h0]
    obtain ⟨k, rfl⟩ : ∃ m, k = m + 1 + 2 * 8 := ⟨k - 17, by omega⟩
    rw [rskips t 8 1 (k + 1) (by omega) (by omega) (fun x hx hy => hn x hx (by omega))]
    simp only [keyeventref03_Decode.l0]
    rw [if_neg (by omega)]
    rfl
  · have hc := (formOk_iff _).1 h1
    rw [if_neg (by omega)]
    obtain ⟨n, hn⟩ : ∃ n : Nat, codeOf t = 1 + (n : Int) := ⟨(codeOf t - 1).toNat, by omega⟩
    obtain ⟨k, rfl⟩ : ∃ m, k = m + 2 + 2 * n := ⟨k - 2 - 2 * n, by omega⟩
    rw [rskips t n 1 (k + 2) (by omega) (by omega) (fun x hx hy => by
      cases hq : isPre t (formCode x) with
      | false => rfl
      | true => have := codeOf_pre t x hx (by omega) hq; omega), ← hn, rlook t _ h1, hp]
    obtain ⟨f1, f2, f3, f4, f5, f6, f7, f8, f9, f10⟩ := k_facts h1
    simp only [keyeventref03_Decode.j1, Bool.not_true]
    rw [if_neg (by simp), rsize_is, if_pos h1, rlead_is _ h1]
    simp only [Option.bind_some]
    rw [code_size, data_len]
    have hk' : 2900 < k := by omega
    clear hk hp hn hc
    generalize codeOf t = c at *
    by_cases h2 : t.size < szN c
    · rw [if_pos (by omega), if_pos h2]
      rfl
    · rw [if_neg (by omega), if_neg h2, if_pos (by omega), if_pos (by omega), if_pos (by omega), if_pos (by omega), if_pos (by omega), as_cut _ f1, zeros_cut _ f1]
      simp only [Int.toNat_natCast]
      have hx : t.extract (cdL c).length (szN c) = toB ((t.data.toList.take (szN c)).drop (cdL c).length) := extract_toB _ _ _
      have hxl : ((t.data.toList.take (szN c)).drop (cdL c).length).length = szN c - (cdL c).length := by simp; omega
      rw [hx, toB_app, if_pos (by rw [toB_size, toB_size, hxl]; simp; omega)]
      have hz : (toB (List.replicate (ldN c) 65 ++ (t.data.toList.take (szN c)).drop (cdL c).length)).size = ldN c + (szN c - (cdL c).length) := by rw [toB_size, List.length_append, hxl]; simp
      rw [ref01_Decode_is _ k (by rw [hz]; omega), if_neg (by rw [hz]; omega), if_pos (by rw [hz]; omega), toB_data]
      have h4 : (List.replicate (ldN c) (65 : UInt8) ++ (t.data.toList.take (szN c)).drop (cdL c).length).length % 4 = 0 := by
        rw [List.length_append, List.length_replicate, hxl]; omega
      cases hd : dec (List.replicate (ldN c) 65 ++ (t.data.toList.take (szN c)).drop (cdL c).length) with
      | none =>
        simp only [Option.bind_some]
        rw [if_neg (by omega)]
        rfl
      | some all =>
        have e3 := dec_len _ h4 _ hd
        rw [List.length_append, List.length_replicate, hxl] at e3
        simp only [Option.bind_some, if_true]
        rw [if_pos (by rw [toB_size]; omega)]
        have hcut : (toB all).extract 0 (ldN c) = toB (all.take (ldN c)) := by rw [extract_toB, toB_data, List.drop_zero]
        rw [hcut, ByteArray.toList_eq, ByteArray.toList_eq, toB_data, toB_data]
        by_cases hp : (List.replicate (ldN c) (0 : UInt8)).isPrefixOf all = true
        · rw [if_pos hp]
          rw [List.isPrefixOf_iff_prefix, List.prefix_iff_eq_take, List.length_replicate] at hp
          rw [if_pos hp.symm]
          simp only [extract_toB, toB_data, toB_size, List.take_length]
        · rw [if_neg hp]
          rw [List.isPrefixOf_iff_prefix, List.prefix_iff_eq_take, List.length_replicate] at hp
          rw [if_neg (fun h => hp h.symm)]
          rfl
theorem aopen_is (c : Int) (t : ByteArray) (k : Nat) (hk : 3000 < k) : primitive_Open.f k c t = keyeventref03_Open.f k c t := by
  unfold primitive_Open.f keyeventref03_Open.f
  rw [primitive_Decode_is t k (by omega), ref03_Decode_is t k hk]
theorem aopen_some (c : Int) (t : ByteArray) (k : Nat) (hk : 3000 < k) : ∃ r, keyeventref03_Open.f k c t = some r := by
  unfold keyeventref03_Open.f
  rw [ref03_Decode_is t k hk]
  simp only [Option.bind_some]
  split
  · split
    · split
      · exact ⟨_, rfl⟩
      · exact ⟨_, rfl⟩
    · exact ⟨_, rfl⟩
  · exact ⟨_, rfl⟩
theorem abin_is (t : ByteArray) (k : Nat) (hk : 2 * t.size + 80 < k) : ∃ r, primitive_Binary.f k t = some r ∧ keyeventref03_Binary.f k t = some r := by
  unfold primitive_Binary.f keyeventref03_Binary.f
  rw [base64_Decode_is t k (by omega), ref01_Decode_is t k hk]
  simp only [Option.bind_some]
  exact ⟨_, rfl, rfl⟩
theorem atext_is (t : ByteArray) (k : Nat) (hk : t.size < k) : ∃ r, primitive_Text.f k t = some r ∧ keyeventref03_Text.f k t = some r := by
  unfold primitive_Text.f keyeventref03_Text.f
  rw [base64_Encode_is t k hk, ref01_Encode_is t k hk]
  simp only [Option.bind_some]
  exact ⟨_, rfl, rfl⟩
theorem asize_is (c : Int) : primitive_Size.f c = keyeventref03_Size.f c := by
  rw [rsize_is]
  unfold primitive_Size.f
  by_cases h : formOk c = true
  · rw [if_pos h, if_pos h, size_is c h]
  · rw [if_neg h, if_neg h]
theorem acts_l3 (ys : List Int) (d : Nat) : ∀ (k i : Nat), ys.length < 1000 → i + d = ys.length → d + 1000 < k → keyeventlaw03_PrimitiveActs.l3 k ys (ys.length : Int) (i : Int) = some true := by
  induction d with
  | zero =>
    intro k i hy hi hk
    obtain ⟨k, rfl⟩ : ∃ m, k = m + 1 := ⟨k - 1, by omega⟩
    simp only [keyeventlaw03_PrimitiveActs.l3]
    rw [if_neg (by omega), awake03 k (by omega)]
    rfl
  | succ d ih =>
    intro k i hy hi hk
    obtain ⟨k, rfl⟩ : ∃ m, k = m + 1 := ⟨k - 1, by omega⟩
    simp only [keyeventlaw03_PrimitiveActs.l3]
    rw [if_pos (by omega), if_pos (by omega), if_pos (by omega), rcode_is, asize_is, rraw_is]
    unfold primitive_Code.f primitive_Raw.f
    simp only [Option.bind_some, bne_self_eq_false, if_true]
    rw [if_neg (by simp), rsize_is]
    simp only [Option.bind_some, if_true]
    rw [wrap_id (by omega) (by omega)]
    exact ih k (i + 1) hy (by omega) (by omega)
theorem acts_l2 (x5 : Int) (s : ByteArray) (hs : s.size ≤ 3000) (xs : List ByteArray) (n j : Int) (c : Int) (z : ByteArray) (ys : List Int) (hy : ys.length < 1000) (hj : 0 ≤ j ∧ j < 1000) (d : Nat) : ∀ (k i : Nat), i + d = ys.length → 9000 < k →
    keyeventlaw03_PrimitiveActs.l2 (k + (d + 1)) x5 s xs n j ys (ys.length : Int) (i : Int) c z = keyeventlaw03_PrimitiveActs.l1 k x5 xs n (j + 1) c z := by
  induction d with
  | zero =>
    intro k i hi hk
    simp only [Nat.zero_add, keyeventlaw03_PrimitiveActs.l2]
    rw [if_neg (by omega)]
    obtain ⟨r1, e1, e2⟩ := abin_is s k (by omega)
    obtain ⟨r2, e3, e4⟩ := atext_is s k (by omega)
    rw [e1, e2, e3, e4]
    simp only [Option.bind_some, if_true]
    rw [wrap_id (by omega) (by omega)]
  | succ d ih =>
    intro k i hi hk
    rw [show k + (d + 1 + 1) = k + (d + 1) + 1 by omega]
    simp only [keyeventlaw03_PrimitiveActs.l2]
    rw [if_pos (by omega), if_pos (by omega), if_pos (by omega), aopen_is _ _ _ (by omega)]
    obtain ⟨r, e⟩ := aopen_some (rd ys (i : Int)) s (k + (d + 1)) (by omega)
    rw [e]
    simp only [Option.bind_some, if_true]
    rw [wrap_id (by omega) (by omega)]
    exact ih k (i + 1) (by omega) hk
theorem acts_l1 (x5 : Int) (xs : List ByteArray) (hx : xs.length < 900) (hs : ∀ s ∈ xs, s.size ≤ 3000) (c : Int) (z : ByteArray) (d : Nat) : ∀ (k i : Nat), i + d = xs.length → d * 10 + 9100 < k →
    keyeventlaw03_PrimitiveActs.l1 k x5 xs (xs.length : Int) (i : Int) c z = some true := by
  induction d with
  | zero =>
    intro k i hi hk
    obtain ⟨k, rfl⟩ : ∃ m, k = m + 1 := ⟨k - 1, by omega⟩
    simp only [keyeventlaw03_PrimitiveActs.l1]
    rw [if_neg (by omega), mod_is _ _ (by omega) (by omega)]
    simp only [Option.bind_some]
    exact acts_l3 _ 2 k 0 (by simp) (by simp) (by omega)
  | succ d ih =>
    intro k i hi hk
    obtain ⟨k, rfl⟩ : ∃ m, k = m + 4 + 2 := ⟨k - 6, by omega⟩
    have hm : rdOf ByteArray.empty xs (i : Int) ∈ xs := by
      unfold rdOf
      rw [Int.toNat_natCast, List.getD, List.getElem?_eq_getElem (show i < xs.length by omega), Option.getD_some]
      exact List.getElem_mem _
    simp only [keyeventlaw03_PrimitiveActs.l1]
    rw [if_pos (by omega), if_pos (by omega), if_pos (by omega), primitive_Decode_is _ _ (by omega), ref03_Decode_is _ _ (by omega)]
    simp only [Option.bind_some, beq_self_eq_true, Bool.not_true, Bool.or_self, bne_self_eq_false, if_true]
    rw [if_neg (by simp)]
    simp only [keyeventlaw03_PrimitiveActs.j3]
    rw [if_neg (by simp), mod_is _ _ (by omega) (by omega)]
    simp only [Option.bind_some]
    have := acts_l2 x5 _ (hs _ hm) xs (xs.length : Int) (i : Int) c z [x5, c, wrap64 (1 + x5 % 8)] (by simp) ⟨by omega, by omega⟩ 3 k 0 (by simp) (by omega)
    refine Eq.trans this ?_
    exact ih k (i + 1) (by omega) (by omega)
theorem acts_l0 (a2 : ByteArray) (h2 : a2.size ≤ 2000) (x3 x4 x5 : Int) (good : ByteArray) (hg : good.size ≤ 836) (c : Int) (z : ByteArray) (xs : List (S29)) (hx : xs.length < 900) (d : Nat) : ∀ (k i : Nat), i + d = xs.length → d + 9200 < k →
    keyeventlaw03_PrimitiveActs.l0 k a2 x3 x4 x5 good xs (xs.length : Int) (i : Int) c z = some true := by
  induction d with
  | zero =>
    intro k i hi hk
    obtain ⟨k, rfl⟩ : ∃ m, k = m + 1 := ⟨k - 1, by omega⟩
    obtain ⟨sp, e1, e2⟩ := spoil_is good x3 x4 (by omega)
    have hm0 := Int.emod_nonneg x3 (show ((good.size : Int) + 1) ≠ 0 by omega)
    have hm1 := Int.emod_lt_of_pos x3 (show (0 : Int) < (good.size : Int) + 1 by omega)
    simp only [keyeventlaw03_PrimitiveActs.l0]
    rw [if_neg (by omega), e1, wrap_id (n := (good.size : Int) + 1) (by omega) (by omega), mod_is _ _ (by omega) (by omega)]
    simp only [Option.bind_some]
    rw [if_pos hm0, if_pos (by omega), if_pos (by omega)]
    refine acts_l1 x5 _ (by simp) ?_ c z 5 k 0 (by simp) (by omega)
    intro s hs
    simp only [List.mem_cons, List.not_mem_nil, or_false] at hs
    rcases hs with rfl | rfl | rfl | rfl | rfl
    · omega
    · omega
    · omega
    · rw [ByteArray.size_extract]; omega
    · rw [ByteArray.size_append]; omega
  | succ d ih =>
    intro k i hi hk
    obtain ⟨k, rfl⟩ : ∃ m, k = m + 1 := ⟨k - 1, by omega⟩
    simp only [keyeventlaw03_PrimitiveActs.l0]
    unfold primitive_Make.f keyeventref03_Make.f
    rw [if_pos (by omega), if_pos (by omega), if_pos (by omega), primitive_Encode_is _ _ k (by omega), ref03_Encode_is _ _ k (by omega)]
    simp only [Option.bind_some, if_true]
    rw [wrap_id (by omega) (by omega)]
    exact ih k (i + 1) (by omega) (by omega)
theorem acts_j0 (l : List Int) (hl : l.length ≤ 500) (a2 : ByteArray) (h2 : a2.size ≤ 2000) (x3 x4 x5 : Int) (c : Int) (z : ByteArray) (k : Nat) (hk : 9300 < k) :
    keyeventlaw03_PrimitiveActs.j0 k l a2 x3 x4 x5 false c z = some true := by
  obtain ⟨k, rfl⟩ : ∃ m, k = m + 1 := ⟨k - 1, by omega⟩
  simp only [keyeventlaw03_PrimitiveActs.j0]
  rw [if_neg (by simp)]
  unfold keyeventkit_Roll.f
  simp only [Option.bind_some]
  obtain ⟨c1, r, j, hp, _, _, _, _⟩ := prim_is l hl 0 (by omega) (by omega) k (by omega)
  rw [hp]
  simp only [Option.bind_some]
  rw [ref03_Encode_is _ _ k (by omega)]
  simp only [Option.bind_some]
  exact acts_l0 a2 h2 x3 x4 x5 _ (by rw [toB_size]; exact encP_size_le _ _) c1 r _ (by simp) 2 k 0 (by simp) (by omega)
theorem acts_skip (l : List Int) (a2 : ByteArray) (x3 x4 x5 : Int) (c : Int) (z : ByteArray) (k : Nat) (hk : 9300 < k) :
    keyeventlaw03_PrimitiveActs.j0 k l a2 x3 x4 x5 true c z = some true := by
  obtain ⟨k, rfl⟩ : ∃ m, k = m + 1 := ⟨k - 1, by omega⟩
  simp only [keyeventlaw03_PrimitiveActs.j0]
  rw [if_pos trivial, awake03 k (by omega)]
  rfl
theorem PrimitiveActs (l : List Int) (c : Int) (raw text : ByteArray) (x3 x4 x5 : Int) : keyeventlaw03_PrimitiveActs.f 10000 l c raw text x3 x4 x5 = some true := by
  obtain ⟨K, hK⟩ : ∃ K, K = 10000 := ⟨_, rfl⟩
  rw [← hK]
  unfold keyeventlaw03_PrimitiveActs.f keyeventkit_Light.f
  simp only [Option.bind_some]
  by_cases hl : l.length ≤ 500
  · rw [if_pos (by simp; omega)]
    by_cases h1 : raw.size > 2000
    · rw [if_pos (by omega)]
      exact acts_skip _ _ _ _ _ _ _ K (by omega)
    · rw [if_neg (by omega)]
      by_cases h2 : text.size > 2000
      · rw [show (decide ((text.size : Int) > 2000)) = true by simp; omega]
        exact acts_skip _ _ _ _ _ _ _ K (by omega)
      · rw [show (decide ((text.size : Int) > 2000)) = false by simp; omega]
        exact acts_j0 l hl text (by omega) x3 x4 x5 _ _ K (by omega)
  · rw [if_neg (by simp; omega)]
    exact acts_skip _ _ _ _ _ _ _ K (by omega)
end Go.Proofs.Ytgicgdiklinomaa.Pure
