/- Plain lists of bytes: base64's digits, texts of bytes and back, and primitives with codes. No program in sight; conditions: each lemma's own. -/
import Derived.Test.YtookjdhfpbmjkaaB64
import Derived.Test.YtookjdhfpbmjkaaForms
import Derived.Lib.Strings
namespace Go.Proofs.YtookjdhfpbmjkaaW.PrintWords
open Go.RowKit Go.Proofs
set_option linter.unusedVariables false
set_option linter.unusedSimpArgs false

/-! ### Strings as lists -/
def toB (l : List UInt8) : ByteArray := ⟨l.toArray⟩
theorem toB_data (l : List UInt8) : (toB l).data.toList = l := by simp [toB]
theorem toB_of (s : ByteArray) : toB s.data.toList = s := by cases s; simp [toB]
theorem bytes_ext {a b : ByteArray} (h : a.data.toList = b.data.toList) : a = b := by rw [← toB_of a, h, toB_of]
theorem toB_size (l : List UInt8) : (toB l).size = l.length := by simp [toB, ByteArray.size]
theorem data_len (s : ByteArray) : s.data.toList.length = s.size := by simp
theorem data_app (a b : ByteArray) : (a ++ b).data.toList = a.data.toList ++ b.data.toList := by simp
theorem toB_app (a b : List UInt8) : toB a ++ toB b = toB (a ++ b) := bytes_ext (by simp [toB_data, data_app])
theorem data_extract (s : ByteArray) (a b : Nat) : (s.extract a b).data.toList = (s.data.toList.take b).drop a := by
  rw [Lib.extract_data, List.drop_take]
theorem extract_toB (s : ByteArray) (a b : Nat) : s.extract a b = toB ((s.data.toList.take b).drop a) := bytes_ext (by rw [data_extract, toB_data])
theorem bt_data (s : ByteArray) (i : Nat) : bt s (i : Int) = ((s.data.toList.getD i 0).toNat : Int) := by
  unfold bt
  by_cases h : i < s.size
  · have h2 : i < s.data.size := h
    simp [h, List.getD, h2]
    rfl
  · have h2 : ¬ i < s.data.size := h
    simp [h, List.getD, h2]
def numsB (xs : List Int) : List UInt8 := xs.map fun n => UInt8.ofNat n.toNat
theorem strOfNums_eq (xs : List Int) : strOfNums xs = toB (numsB xs) := rfl
theorem numsB_app (a b : List Int) : numsB (a ++ b) = numsB a ++ numsB b := by simp [numsB]

/-! ### Digits -/
def digs : List UInt8 := [65, 66, 67, 68, 69, 70, 71, 72, 73, 74, 75, 76, 77, 78, 79, 80, 81, 82, 83, 84, 85, 86, 87, 88, 89, 90, 97, 98, 99, 100, 101, 102, 103, 104, 105, 106, 107, 108, 109, 110, 111, 112, 113, 114, 115, 116, 117, 118, 119, 120, 121, 122, 48, 49, 50, 51, 52, 53, 54, 55, 56, 57, 45, 95]
def dg (n : Nat) : UInt8 := digs.getD n 0
def vl (c : UInt8) : Option Nat := if b64Num (c.toNat : Int) = 0 then none else some (b64Num (c.toNat : Int) - 1).toNat
theorem vl_dg (n : Nat) (h : n < 64) : vl (dg n) = some n := by
  have : ∀ m : Fin 64, vl (dg m.1) = some m.1 := by decide +kernel
  exact this ⟨n, h⟩
theorem vl_some {c : UInt8} {n : Nat} (h : vl c = some n) : n < 64 ∧ dg n = c := by
  have all : ∀ m : Fin 256, ∀ n, vl (UInt8.ofNat m.1) = some n → n < 64 ∧ dg n = UInt8.ofNat m.1 := by
    have : ∀ m : Fin 256, (vl (UInt8.ofNat m.1)).all (fun n => decide (n < 64) && (dg n == UInt8.ofNat m.1)) = true := by decide +kernel
    intro m n hn
    have := this m
    rw [hn] at this
    simpa using this
  have hc : UInt8.ofNat c.toNat = c := by simp
  have := all ⟨c.toNat, c.toNat_lt⟩ n
  simp only [hc] at this
  exact this h

/-! ### base64 -/
def enc : List UInt8 → List UInt8
  | a :: b :: c :: r => dg ((a.toNat * 65536 + b.toNat * 256 + c.toNat) / 262144) :: dg ((a.toNat * 65536 + b.toNat * 256 + c.toNat) / 4096 % 64) :: dg ((a.toNat * 65536 + b.toNat * 256 + c.toNat) / 64 % 64) :: dg ((a.toNat * 65536 + b.toNat * 256 + c.toNat) % 64) :: enc r
  | _ => []
def dec : List UInt8 → Option (List UInt8)
  | a :: b :: c :: d :: r => (vl a).bind fun x => (vl b).bind fun y => (vl c).bind fun z => (vl d).bind fun u => (dec r).map fun l =>
      UInt8.ofNat ((x * 262144 + y * 4096 + z * 64 + u) / 65536) :: UInt8.ofNat ((x * 262144 + y * 4096 + z * 64 + u) / 256 % 256) :: UInt8.ofNat ((x * 262144 + y * 4096 + z * 64 + u) % 256) :: l
  | _ => some []
theorem three {α : Type} {P : List α → Prop} (h0 : P []) (h3 : ∀ a b c r, r.length % 3 = 0 → P r → P (a :: b :: c :: r)) : ∀ l : List α, l.length % 3 = 0 → P l
  | [], _ => h0
  | [_], h => by simp at h
  | [_, _], h => by simp at h
  | a :: b :: c :: r, h => by
    have h' : r.length % 3 = 0 := by simp at h; omega
    exact h3 a b c r h' (three h0 h3 r h')
theorem four {α : Type} {P : List α → Prop} (h0 : P []) (h4 : ∀ a b c d r, r.length % 4 = 0 → P r → P (a :: b :: c :: d :: r)) : ∀ l : List α, l.length % 4 = 0 → P l
  | [], _ => h0
  | [_], h => by simp at h
  | [_, _], h => by simp at h
  | [_, _, _], h => by simp at h
  | a :: b :: c :: d :: r, h => by
    have h' : r.length % 4 = 0 := by simp at h; omega
    exact h4 a b c d r h' (four h0 h4 r h')
theorem dec_enc (l : List UInt8) (h : l.length % 3 = 0) : dec (enc l) = some l := by
  refine three (P := fun l => dec (enc l) = some l) rfl (fun a b c r _ ih => ?_) l h
  have ha := a.toNat_lt
  have hb := b.toNat_lt
  have hc := c.toNat_lt
  simp only [enc, dec]
  rw [vl_dg _ (by omega), vl_dg _ (by omega), vl_dg _ (by omega), vl_dg _ (by omega), ih]
  simp only [Option.bind_some, Option.map_some, Option.some.injEq, List.cons.injEq, and_true]
  have e : (a.toNat * 65536 + b.toNat * 256 + c.toNat) / 262144 * 262144 + (a.toNat * 65536 + b.toNat * 256 + c.toNat) / 4096 % 64 * 4096 + (a.toNat * 65536 + b.toNat * 256 + c.toNat) / 64 % 64 * 64 + (a.toNat * 65536 + b.toNat * 256 + c.toNat) % 64 = a.toNat * 65536 + b.toNat * 256 + c.toNat := by omega
  rw [e]
  refine ⟨?_, ?_, ?_⟩
  · rw [show (a.toNat * 65536 + b.toNat * 256 + c.toNat) / 65536 = a.toNat by omega]; simp
  · rw [show (a.toNat * 65536 + b.toNat * 256 + c.toNat) / 256 % 256 = b.toNat by omega]; simp
  · rw [show (a.toNat * 65536 + b.toNat * 256 + c.toNat) % 256 = c.toNat by omega]; simp
theorem ofNat_small (n : Nat) (h : n < 256) : (UInt8.ofNat n).toNat = n := by simp; omega
theorem enc_dec (t : List UInt8) (h : t.length % 4 = 0) : ∀ l, dec t = some l → enc l = t ∧ l.length % 3 = 0 := by
  refine four (P := fun t => ∀ l, dec t = some l → enc l = t ∧ l.length % 3 = 0) ?_ (fun a b c d r _ ih => ?_) t h
  · intro l hl
    simp only [dec, Option.some.injEq] at hl
    subst hl
    exact ⟨rfl, rfl⟩
  · intro l hl
    simp only [dec] at hl
    obtain ⟨x, hx, hl⟩ := Option.bind_eq_some_iff.mp hl
    obtain ⟨y, hy, hl⟩ := Option.bind_eq_some_iff.mp hl
    obtain ⟨z, hz, hl⟩ := Option.bind_eq_some_iff.mp hl
    obtain ⟨u, hu, hl⟩ := Option.bind_eq_some_iff.mp hl
    obtain ⟨m, hm, rfl⟩ := Option.map_eq_some_iff.mp hl
    obtain ⟨hx1, rfl⟩ := vl_some hx
    obtain ⟨hy1, rfl⟩ := vl_some hy
    obtain ⟨hz1, rfl⟩ := vl_some hz
    obtain ⟨hu1, rfl⟩ := vl_some hu
    obtain ⟨e1, e2⟩ := ih m hm
    refine ⟨?_, by simp; omega⟩
    simp only [enc]
    rw [ofNat_small _ (by omega), ofNat_small _ (by omega), ofNat_small _ (by omega), e1]
    have e : (x * 262144 + y * 4096 + z * 64 + u) / 65536 * 65536 + (x * 262144 + y * 4096 + z * 64 + u) / 256 % 256 * 256 + (x * 262144 + y * 4096 + z * 64 + u) % 256 = x * 262144 + y * 4096 + z * 64 + u := by omega
    rw [e, show (x * 262144 + y * 4096 + z * 64 + u) / 262144 = x by omega, show (x * 262144 + y * 4096 + z * 64 + u) / 4096 % 64 = y by omega, show (x * 262144 + y * 4096 + z * 64 + u) / 64 % 64 = z by omega, show (x * 262144 + y * 4096 + z * 64 + u) % 64 = u by omega]
theorem enc_len (l : List UInt8) (h : l.length % 3 = 0) : (enc l).length = l.length / 3 * 4 := by
  refine three (P := fun l => (enc l).length = l.length / 3 * 4) rfl (fun a b c r h ih => ?_) l h
  simp only [enc, List.length_cons, ih]
  omega
theorem dec_len (t : List UInt8) (h : t.length % 4 = 0) (l : List UInt8) (hl : dec t = some l) : l.length = t.length / 4 * 3 := by
  obtain ⟨e1, e2⟩ := enc_dec t h l hl
  have := enc_len l e2
  rw [e1] at this
  omega

/-! ### Primitives -/
theorem drop_rep {α : Type} (n : Nat) (a : α) (u : List α) : (List.replicate n a ++ u).drop n = u := by
  simp
def cdL (k : Int) : List UInt8 := (formCode k).data.toList
def rwN (k : Int) : Nat := (formRaw k).toNat
def ldN (k : Int) : Nat := (3 - rwN k % 3) % 3
def szN (k : Int) : Nat := (cdL k).length + (rwN k + ldN k) / 3 * 4 - ldN k
def encP (k : Int) (raw : List UInt8) : List UInt8 × Int :=
  if formOk k = true then (if raw.length = rwN k then (cdL k ++ (enc (List.replicate (ldN k) 0 ++ raw)).drop (ldN k), 0) else ([], 8)) else ([], 7)
def decP (t : List UInt8) : Int × List UInt8 × Int × Int :=
  if codeOf (toB t) = 0 then (0, [], 0, 7) else if t.length < szN (codeOf (toB t)) then (0, [], 0, 8) else
    match dec (List.replicate (ldN (codeOf (toB t))) 65 ++ (t.take (szN (codeOf (toB t)))).drop (cdL (codeOf (toB t))).length) with
    | none => (0, [], 0, 4)
    | some all => if (List.replicate (ldN (codeOf (toB t))) 0).isPrefixOf all = true then (codeOf (toB t), all.drop (ldN (codeOf (toB t))), (szN (codeOf (toB t)) : Int), 0) else (0, [], 0, 4)
theorem formOk_iff (k : Int) : formOk k = true ↔ 1 ≤ k ∧ k ≤ 8 := by simp [formOk]
theorem k_cases {k : Int} (h : formOk k = true) : k = 1 ∨ k = 2 ∨ k = 3 ∨ k = 4 ∨ k = 5 ∨ k = 6 ∨ k = 7 ∨ k = 8 := by
  rw [formOk_iff] at h; omega
/-- What is known of the eight codes. -/
theorem k_facts {k : Int} (h : formOk k = true) : ldN k ≤ 2 ∧ (ldN k + rwN k) % 3 = 0 ∧ 0 < rwN k ∧ rwN k ≤ 626 ∧ szN k % 4 = 0 ∧ (cdL k).length ≤ szN k ∧ 0 < (cdL k).length ∧ (cdL k).length + (ldN k + rwN k) / 3 * 4 = szN k + ldN k ∧ ((cdL k).length = ldN k ∨ (ldN k = 0 ∧ (cdL k).length = 4)) ∧ szN k ≤ 836 := by
  rcases k_cases h with rfl | rfl | rfl | rfl | rfl | rfl | rfl | rfl <;> decide
theorem isPre_app (k : Int) (t : List UInt8) : isPre (toB (cdL k ++ t)) (formCode k) = true := by
  unfold isPre
  rw [toB_data, List.isPrefixOf_iff_prefix]
  exact ⟨t, rfl⟩
theorem codeOf_app {k : Int} (h : formOk k = true) (t : List UInt8) : codeOf (toB (cdL k ++ t)) = k := by
  have hk := (formOk_iff k).1 h
  exact codeOf_pre _ k hk.1 hk.2 (isPre_app k t)
theorem codeOf_is (t : ByteArray) : (codeOf t = 0 ∧ ∀ k, 1 ≤ k → k ≤ 8 → isPre t (formCode k) = false) ∨ (formOk (codeOf t) = true ∧ isPre t (formCode (codeOf t)) = true) := by
  rcases Classical.em (∃ k, 1 ≤ k ∧ k ≤ 8 ∧ isPre t (formCode k) = true) with ⟨k, h1, h2, h3⟩ | h
  · right
    have := codeOf_pre t k h1 h2 h3
    rw [this]
    exact ⟨(formOk_iff k).2 ⟨h1, h2⟩, h3⟩
  · left
    have hn : ∀ k, 1 ≤ k → k ≤ 8 → isPre t (formCode k) = false := fun k h1 h2 => by
      cases hp : isPre t (formCode k) with
      | false => rfl
      | true => exact absurd ⟨k, h1, h2, hp⟩ h
    exact ⟨codeOf_none t hn, hn⟩
theorem codeOf_text {t : List UInt8} (h : codeOf (toB t) ≠ 0) : formOk (codeOf (toB t)) = true ∧ t = cdL (codeOf (toB t)) ++ t.drop (cdL (codeOf (toB t))).length := by
  rcases codeOf_is (toB t) with ⟨h0, _⟩ | ⟨h1, h2⟩
  · exact absurd h0 h
  · refine ⟨h1, ?_⟩
    unfold isPre at h2
    rw [toB_data, List.isPrefixOf_iff_prefix] at h2
    obtain ⟨u, hu⟩ := h2
    generalize codeOf (toB t) = c at *
    have h3 : t = cdL c ++ u := hu.symm
    rw [h3, List.drop_left]
/-- What zero bytes ahead become. -/
theorem enc_zeros (l : Nat) (hl : l ≤ 2) (raw : List UInt8) (h : (List.replicate l (0 : UInt8) ++ raw).length % 3 = 0) (h0 : 0 < raw.length) :
    enc (List.replicate l 0 ++ raw) = List.replicate l 65 ++ (enc (List.replicate l 0 ++ raw)).drop l := by
  have hd : dg 0 = 65 := rfl
  rcases (show l = 0 ∨ l = 1 ∨ l = 2 by omega) with rfl | rfl | rfl
  · simp
  · match raw, h, h0 with
    | [], _, h0 => simp at h0
    | [_], h, _ => simp at h
    | b :: c :: r, _, _ =>
      have hb := b.toNat_lt
      have hc := c.toNat_lt
      simp only [List.replicate, List.cons_append, List.nil_append, enc, List.drop_succ_cons, List.drop_zero]
      rw [show ((0 : UInt8).toNat * 65536 + b.toNat * 256 + c.toNat) / 262144 = 0 by simp; omega, hd]
  · match raw, h, h0 with
    | [], _, h0 => simp at h0
    | c :: r, _, _ =>
      have hc := c.toNat_lt
      simp only [List.replicate, List.cons_append, List.nil_append, enc, List.drop_succ_cons, List.drop_zero]
      rw [show ((0 : UInt8).toNat * 65536 + (0 : UInt8).toNat * 256 + c.toNat) / 262144 = 0 by simp; omega, show ((0 : UInt8).toNat * 65536 + (0 : UInt8).toNat * 256 + c.toNat) / 4096 % 64 = 0 by simp; omega, hd]
/-- A primitive comes back from its text, whatever follows. -/
theorem decP_encP {k : Int} (hk : formOk k = true) {raw : List UInt8} (hr : raw.length = rwN k) (after : List UInt8) :
    decP ((encP k raw).1 ++ after) = (k, raw, (szN k : Int), 0) ∧ (encP k raw).1.length = szN k ∧ (encP k raw).2 = 0 := by
  obtain ⟨f1, f2, f3, f4, f5, f6, f7, f8, f9, f10⟩ := k_facts hk
  have he : encP k raw = (cdL k ++ (enc (List.replicate (ldN k) 0 ++ raw)).drop (ldN k), 0) := by unfold encP; rw [if_pos hk, if_pos hr]
  have hl3 : (List.replicate (ldN k) (0 : UInt8) ++ raw).length % 3 = 0 := by simp [hr]; omega
  have hz := enc_zeros (ldN k) f1 raw hl3 (by omega)
  have hel := enc_len _ hl3
  have hlen : (enc (List.replicate (ldN k) 0 ++ raw)).length = (ldN k + rwN k) / 3 * 4 := by rw [hel]; simp [hr]
  have hsz : (cdL k ++ (enc (List.replicate (ldN k) 0 ++ raw)).drop (ldN k)).length = szN k := by
    rw [List.length_append, List.length_drop, hlen]; omega
  rw [he]
  refine ⟨?_, hsz, rfl⟩
  dsimp only
  have hc : codeOf (toB (cdL k ++ (enc (List.replicate (ldN k) 0 ++ raw)).drop (ldN k) ++ after)) = k := by rw [List.append_assoc]; exact codeOf_app hk _
  unfold decP
  rw [hc, if_neg (by have := (formOk_iff k).1 hk; omega), if_neg (by rw [List.length_append, hsz]; omega)]
  have ht : ((cdL k ++ (enc (List.replicate (ldN k) 0 ++ raw)).drop (ldN k) ++ after).take (szN k)).drop (cdL k).length = (enc (List.replicate (ldN k) 0 ++ raw)).drop (ldN k) := by
    rw [List.take_append_of_le_length (by omega), List.take_of_length_le (by omega), List.drop_left]
  rw [ht, ← hz, dec_enc _ hl3]
  dsimp only
  rw [if_pos (by rw [List.isPrefixOf_iff_prefix]; exact ⟨raw, rfl⟩)]
  rw [drop_rep]
/-- What is read is written again just so. -/
theorem encP_decP {t : List UInt8} {k : Int} {raw : List UInt8} {n : Int} (h : decP t = (k, raw, n, 0)) :
    formOk k = true ∧ raw.length = rwN k ∧ n = (szN k : Int) ∧ szN k ≤ t.length ∧ encP k raw = (t.take (szN k), 0) := by
  unfold decP at h
  split at h
  · simp at h
  · rename_i hc
    obtain ⟨hk, ht⟩ := codeOf_text hc
    obtain ⟨f1, f2, f3, f4, f5, f6, f7, f8, f9, f10⟩ := k_facts hk
    generalize codeOf (toB t) = c at *
    split at h
    · simp at h
    · rename_i hlen
      have hlen' : szN c ≤ t.length := by omega
      split at h
      · simp at h
      · rename_i all hd
        split at h
        · rename_i hp
          simp only [Prod.mk.injEq, and_true] at h
          obtain ⟨rfl, rfl, rfl⟩ := h
          rw [List.isPrefixOf_iff_prefix] at hp
          obtain ⟨u, rfl⟩ := hp
          have hx : ((t.take (szN c)).drop (cdL c).length).length = szN c - (cdL c).length := by simp; omega
          have h4 : (List.replicate (ldN c) (65 : UInt8) ++ (t.take (szN c)).drop (cdL c).length).length % 4 = 0 := by
            rw [List.length_append, List.length_replicate, hx]; omega
          obtain ⟨e1, e2⟩ := enc_dec _ h4 _ hd
          have e3 := dec_len _ h4 _ hd
          rw [List.length_append, List.length_append, List.length_replicate, List.length_replicate, hx] at e3
          have hu : (List.drop (ldN c) (List.replicate (ldN c) 0 ++ u)) = u := drop_rep _ _ _
          have hul : u.length = rwN c := by omega
          rw [hu]
          refine ⟨hk, hul, rfl, hlen', ?_⟩
          unfold encP
          rw [if_pos hk, if_pos hul, e1]
          have : List.drop (ldN c) (List.replicate (ldN c) (65 : UInt8) ++ (t.take (szN c)).drop (cdL c).length) = (t.take (szN c)).drop (cdL c).length := drop_rep _ _ _
          rw [this]
          congr 1
          have h2 : t.take (szN c) = cdL c ++ (t.take (szN c)).drop (cdL c).length := by
            have h3 : (t.take (szN c)).take (cdL c).length = cdL c := by
              rw [List.take_take, Nat.min_eq_left f6, ht, List.take_left]
            conv => lhs; rw [← List.take_append_drop (cdL c).length (t.take (szN c)), h3]
          exact h2.symm
        · simp at h
end Go.Proofs.YtookjdhfpbmjkaaW.PrintWords
