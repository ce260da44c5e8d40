/- The program's reading of groups comes to what the lists say; the groups that are drawn are few and short. Conditions: each lemma's own (sizes, and rounds enough). -/
import Derived.Test.YtookjdhfpbmjkaaFacts04
import Derived.Test.YtookjdhfpbmjkaaX11
import Derived.Test.YtookjdhfpbmjkaaX14
import Derived.Test.YtookjdhfpbmjkaaX15
import Derived.Test.YtookjdhfpbmjkaaX19
namespace Go.Proofs.Ytookjdhfpbmjkaa.Pure
open Go.RowKit Go.Proofs.Ytookjdhfpbmjkaa.X Go.Proofs.YtookjdhfpbmjkaaW.PrintWords Go.Proofs.YtookjdhfpbmjkaaW.PrintLast
set_option linter.unusedVariables false
set_option linter.unusedSimpArgs false

theorem parse2_is (a b : UInt8) (k : Nat) (hk : 4 ≤ k) : base64_Parse.f k (toB [a, b]) = some (match numL 0 [a, b] with | none => ((0 : Int), (4 : Int)) | some n => ((n : Int), 0)) := by
  obtain ⟨k, rfl⟩ : ∃ m, k = m + 1 := ⟨k - 1, by omega⟩
  unfold base64_Parse.f
  rw [toB_size, if_neg (by simp)]
  simp only [base64_Parse.j0]
  rw [if_neg (by simp), base64_number_is [a, b] (by simp) k (by simp; omega)]
  cases numL 0 [a, b] <;> simp
theorem marked_is (a b c d : UInt8) (r : List UInt8) (ha : a = 45) (k : Nat) (hk : 4 ≤ k) : stream_marked.f k (toB (a :: b :: c :: d :: r)) = some (match numL 0 [c, d] with | none => ((0 : Int), (0 : Int), false) | some n => if numOf ((b.toNat : Nat) : Int) = 0 then (0, 0, false) else (numOf ((b.toNat : Nat) : Int), (n : Int), true)) := by
  subst ha
  unfold stream_marked.f
  have h0 : bt (toB (45 :: b :: c :: d :: r)) 0 = 45 := by
    have := byteAt (45 :: b :: c :: d :: r) 0
    simpa using this
  have h1 : bt (toB (45 :: b :: c :: d :: r)) 1 = ((b.toNat : Nat) : Int) := by
    have := byteAt (45 :: b :: c :: d :: r) 1
    simpa using this
  rw [h0, h1, toB_size, if_pos ⟨by simp, rfl⟩, extract_toB, toB_data]
  simp only [List.take_succ_cons, List.take_zero, List.drop_succ_cons, List.drop_zero]
  rw [parse2_is c d k hk]
  simp only [Option.bind_some]
  cases numL 0 [c, d] with
  | none => simp
  | some n =>
    dsimp only
    by_cases hz : numOf ((b.toNat : Nat) : Int) = 0
    · rw [if_neg (fun h => h.2 hz), if_pos hz]
    · rw [if_pos ⟨rfl, hz⟩, if_neg hz]
theorem marked_no (t : List UInt8) (h : t.length < 4) (k : Nat) : stream_marked.f k (toB t) = some (0, 0, false) := by
  unfold stream_marked.f
  rw [if_neg (by rw [toB_size]; omega)]
/-! ### Groups -/
def GrpR (c : Int) (acc : List PI) (r : Except Int (List PI × List UInt8)) (o : Option (Int × List PI × ByteArray × Int)) : Prop :=
  match r with
  | .ok (l, u) => o = some (c, acc ++ l, toB u, 0)
  | .error e => ∃ y, o = some (c, y, ⟨#[]⟩, e)
theorem rd_get (p : List Int) (j : Nat) (h : j < p.length) : rd p (j : Int) = p[j] := by
  unfold rd
  rw [Int.toNat_natCast, List.getD, List.getElem?_eq_getElem h, Option.getD_some]
theorem group_l1 (c : Int) (n i : Nat) (p : List Int) (k0 : Nat) (r0 : List PI → List UInt8 → Except Int (List PI × List UInt8)) (hk0 : 900 < k0) (hpl : p.length ≤ 2) (B : Nat) (hB : B ≤ 1000000)
    (H : ∀ (t : List UInt8) (acc : List PI) (k : Nat), k0 ≤ k → acc.length ≤ B → GrpR c acc (r0 acc t) (stream_group.l0 k (toB t) c (n : Int) (wrap64 ((i : Int) + 1)) c acc)) (d : Nat) :
    ∀ (t : List UInt8) (j k : Nat) (acc : List PI), j + d = p.length → d + k0 < k → acc.length + d ≤ B →
    GrpR c acc (match rdPat (p.drop j) t with | .ok (l, u) => (match r0 (acc ++ l) u with | .ok (m, v) => .ok (l ++ m, v) | .error e => .error e) | .error e => .error e) (stream_group.l1 k (toB t) c (n : Int) (i : Int) p (p.length : Int) (j : Int) c acc) := by
  induction d with
  | zero =>
    intro t j k acc hd hk hb
    obtain ⟨k, rfl⟩ : ∃ m, k = m + 1 := ⟨k - 1, by omega⟩
    simp only [stream_group.l1]
    rw [if_neg (by omega), List.drop_of_length_le (by omega)]
    have := H t acc k (by omega) (by omega)
    simp only [rdPat, List.append_nil, List.nil_append]
    unfold GrpR at this ⊢
    split at this <;> simp_all
  | succ d ih =>
    intro t j k acc hd hk hb
    obtain ⟨k, rfl⟩ : ∃ m, k = m + 1 := ⟨k - 1, by omega⟩
    have hj : j < p.length := by omega
    simp only [stream_group.l1]
    rw [if_pos (by omega), if_pos (by omega), if_pos (by omega), primitive_Decode_is _ k (by omega), toB_data, List.drop_eq_getElem_cons hj]
    simp only [Option.bind_some]
    rw [rdPat, rd_get p j hj]
    by_cases h0 : (decP t).2.2.2 = 0
    · rw [if_pos h0, if_pos h0]
      by_cases h1 : (decP t).1 = p[j]
      · obtain ⟨_, _, hn, hle, _⟩ := encP_decP (decP_eq h0)
        have hB2 : acc.length < 5864062014805 := by omega
        rw [if_pos h1, if_pos h1, if_pos hB2, if_pos (by omega), if_pos (by rw [toB_size]; omega)]
        rw [extract_toB, toB_data, toB_size, List.take_length, show ((j : Int) + 1) = ((j + 1 : Nat) : Int) by omega, wrap_nat (by omega)]
        have := ih (t.drop (decP t).2.2.1.toNat) (j + 1) k (acc ++ [⟨(decP t).1, toB (decP t).2.1⟩]) (by omega) (by omega) (by rw [List.length_append, List.length_singleton]; omega)
        cases hr : rdPat (p.drop (j + 1)) (t.drop (decP t).2.2.1.toNat) with
        | error e =>
          rw [hr] at this
          exact this
        | ok x =>
          obtain ⟨l, u⟩ := x
          rw [hr] at this
          simp only [List.append_assoc, List.singleton_append] at this ⊢
          cases hr2 : r0 (acc ++ (⟨(decP t).1, toB (decP t).2.1⟩ :: l)) u with
          | error e =>
            rw [hr2] at this
            exact this
          | ok y =>
            obtain ⟨m, v⟩ := y
            rw [hr2] at this
            unfold GrpR at this ⊢
            simp only at this ⊢
            rw [this]
            simp
      · rw [if_neg h1, if_neg h1]
        exact ⟨_, rfl⟩
    · rw [if_neg h0, if_neg h0]
      exact ⟨_, rfl⟩
set_option maxRecDepth 20000 in
theorem group_l0 (c : Int) (n : Nat) (hn : n ≤ 4096) (d : Nat) : ∀ (i : Nat) (t : List UInt8) (acc : List PI) (k : Nat), i + d = n → 4 * d + 910 < k → acc.length + 2 * d ≤ 1000000 →
    GrpR c acc (rdN d (patOf c) t) (stream_group.l0 k (toB t) c (n : Int) (i : Int) c acc) := by
  induction d with
  | zero =>
    intro i t acc k hd hk hb
    obtain ⟨k, rfl⟩ : ∃ m, k = m + 1 := ⟨k - 1, by omega⟩
    simp only [stream_group.l0]
    rw [if_neg (by omega)]
    simp [GrpR, rdN]
  | succ d ih =>
    intro i t acc k hd hk hb
    obtain ⟨k, rfl⟩ : ∃ m, k = m + 1 := ⟨k - 1, by omega⟩
    simp only [stream_group.l0]
    rw [if_pos (by omega), permitted_is]
    simp only [Option.bind_some]
    have hp := pat_len c
    have := group_l1 c n i (patOf c) (4 * d + 911) (fun _ u => rdN d (patOf c) u) (by omega) hp (acc.length + 2) (by omega)
      (fun t acc' k hk hacc => by
        rw [show ((i : Int) + 1) = ((i + 1 : Nat) : Int) by omega, wrap_nat (by omega)]
        exact ih (i + 1) t acc' k (by omega) (by omega) (by omega)) (patOf c).length t 0 k acc (by omega) (by omega) (by omega)
    rw [List.drop_zero] at this
    rw [rdN]
    exact this
set_option maxRecDepth 20000 in
theorem group_is (c : Int) (n : Nat) (hn : n ≤ 4096) (t : List UInt8) (k : Nat) (hk : 18000 < k) : GrpR c [] (rdN n (patOf c) t) (stream_group.f k (toB t) c (n : Int)) := by
  unfold stream_group.f
  exact group_l0 c n hn n 0 t [] k (by omega) (by omega) (by simp; omega)
/-! ### Texts -/
def outS (acc : List GI) (r : Except Int (List GI × List UInt8)) : Option (List GI × ByteArray × Int) :=
  match r with
  | .ok (l, u) => some (acc ++ l, toB u, 0)
  | .error e => some ([], ⟨#[]⟩, e)
set_option maxRecDepth 20000 in
theorem read_l0 (B : Nat) (hB : B ≤ 1000000) : ∀ (n : Nat) (t : List UInt8) (acc : List GI) (k : Nat), t.length < n → 2 * n + 18010 < k → acc.length + t.length ≤ B →
    stream_read.l0 k (toB t) acc = outS acc (rdS n t)
  | 0, t, acc, k, h, _, _ => by omega
  | n + 1, t, acc, k, h, hk, hb => by
    obtain ⟨k, rfl⟩ : ∃ m, k = m + 2 := ⟨k - 2, by omega⟩
    rw [stream_read.l0.eq_2]
    unfold rdS
    by_cases ht : t = []
    · subst ht
      rw [if_pos (by rw [ByteArray.toList_eq, toB_data]), stream_read.j1.eq_2, if_neg (by simp), if_neg (by simp)]
      simp [outS]
    · have hpos : 0 < t.length := List.length_pos_iff.2 ht
      have hb0 : bt (toB t) 0 = (((t.getD 0 0).toNat : Nat) : Int) := by
        have := byteAt t 0
        simpa using this
      rw [if_neg (by rw [ByteArray.toList_eq, toB_data]; exact ht), if_pos (by rw [toB_size]; omega), hb0, stream_read.j1.eq_2]
      by_cases h45 : t.getD 0 0 = 45
      · rw [if_pos (by rw [h45]; rfl), if_pos ⟨h45, ht⟩]
        by_cases h4 : t.length < 4
        · rw [marked_no t h4]
          simp only [Option.bind_some]
          rw [if_neg (by simp)]
          have : rdG t = .error 4 := by unfold rdG; rw [if_pos (Or.inl h4)]
          rw [this]
          rfl
        · obtain ⟨a, b, c, d, r, rfl⟩ : ∃ a b c d r, t = a :: b :: c :: d :: r := by
            match t, h4 with
            | a :: b :: c :: d :: r, _ => exact ⟨a, b, c, d, r, rfl⟩
            | [], h => simp at h
            | [_], h => simp at h
            | [_, _], h => simp at h
            | [_, _, _], h => simp at h
          simp only [List.getD_cons_zero] at h45
          have hmk := marked_is a b c d r h45 k (by omega)
          unfold rdG
          simp only [List.getD_cons_zero, List.getD_cons_succ, List.drop_succ_cons, List.drop_zero]
          rw [if_neg (show ¬ ((a :: b :: c :: d :: r).length < 4 ∨ a ≠ 45) by simp [h45])]
          cases hn : numL 0 [c, d] with
          | none =>
            rw [hn] at hmk
            rw [hmk]
            rfl
          | some m =>
            rw [hn] at hmk
            dsimp only at hmk ⊢
            by_cases hz : numOf ((b.toNat : Nat) : Int) = 0
            · rw [if_pos hz] at hmk
              rw [hmk, if_pos hz]
              rfl
            · rw [if_neg hz] at hmk
              rw [hmk, if_neg hz]
              simp only [Option.bind_some]
              simp only [if_true]
              have hm := (num2_some hn).1
              rw [toB_size, if_pos (by simp; omega), extract_toB, toB_data, List.take_length]
              simp only [List.drop_succ_cons, List.drop_zero]
              have hg := group_is (numOf ((b.toNat : Nat) : Int)) m (by omega) r k (by omega)
              cases hr : rdN m (patOf (numOf ((b.toNat : Nat) : Int))) r with
              | error e =>
                rw [hr] at hg
                obtain ⟨y, hy⟩ := hg
                have he := rdN_err _ _ _ _ hr
                rw [hy]
                simp only [Option.bind_some]
                rw [if_neg he]
                rfl
              | ok x =>
                obtain ⟨l, u⟩ := x
                rw [hr] at hg
                unfold GrpR at hg
                simp only [List.nil_append] at hg
                rw [hg]
                simp only [Option.bind_some, if_true]
                have hlen : u.length ≤ r.length := by
                  obtain ⟨_, h2, _⟩ := rdN_back _ _ _ _ _ hr
                  rw [← h2, List.length_append]; omega
                simp only [List.length_cons] at h hb
                have hac : acc.length < 4398046511104 := by omega
                have hrec := read_l0 B hB n u (acc ++ [(⟨numOf ((b.toNat : Nat) : Int), l⟩ : GI)]) k (by omega) (by omega) (by rw [List.length_append, List.length_singleton]; omega)
                rw [if_pos hac]
                refine hrec.trans ?_
                cases rdS n u with
                | error e => rfl
                | ok z => simp [outS]
      · have hne : ((((t.getD 0 0).toNat : Nat) : Int) == 45) = false := by
          rw [beq_eq_false_iff_ne]
          intro hc
          apply h45
          have : (t.getD 0 0).toNat = 45 := by omega
          rw [← UInt8.ofNat_toNat (x := t.getD 0 0), this]
          rfl
        rw [hne, if_neg (by simp), if_neg (fun hc => h45 hc.1)]
        simp [outS]
theorem encIs_ge : ∀ l : List PI, (encIs l).2 = 0 → l.length ≤ (encIs l).1.length
  | [], _ => Nat.zero_le _
  | x :: r, h => by
    obtain ⟨h1, h2, h3⟩ := encIs_cons h
    have ih := encIs_ge r h2
    obtain ⟨ho, hr⟩ := encP_ok (c := x.f0) (raw := x.f1.data.toList) h1
    have hl := (decP_encP ho hr []).2.1
    obtain ⟨f1, f2, f3, f4, f5, f6, f7, f8, f9, f10⟩ := k_facts ho
    rw [h3, List.length_append, List.length_cons]
    unfold encI
    omega
theorem encGs_ge : ∀ l : List GI, (encGs l).2 = 0 → totL l + 4 * l.length ≤ (encGs l).1.length
  | [], _ => by simp [totL]
  | g :: r, h => by
    obtain ⟨h1, h2, h3⟩ := encGs_cons h
    have ih := encGs_ge r h2
    have hg := encIs_ge g.f1 h1
    rw [h3, List.length_append, List.length_append, List.length_cons]
    have hm : (markL g.f0 (cntOf g)).length = 4 := rfl
    have ht : totL (g :: r) = g.f1.length + totL r := by simp [totL]
    omega
set_option maxRecDepth 20000 in
theorem decode_is (t : List UInt8) (ht : t.length ≤ 1000000) (k : Nat) (hk : 2 * t.length + 18020 < k) : stream_Decode.f k (toB t) = some (decS t) := by
  unfold stream_Decode.f stream_read.f decS
  rw [read_l0 t.length (by omega) (t.length + 1) t [] k (by omega) (by omega) (by simp)]
  cases hr : rdS (t.length + 1) t with
  | error e =>
    have he := rdS_err _ _ _ hr
    simp only [outS, Option.bind_some]
    rw [if_neg he]
  | ok x =>
    obtain ⟨l, u⟩ := x
    obtain ⟨a1, a2, a3⟩ := rdS_back _ _ _ _ hr
    have hge := encGs_ge l a1
    have hl : (encGs l).1.length ≤ t.length := by rw [← a2, List.length_append]; omega
    simp only [outS, Option.bind_some, List.nil_append, if_true]
    rw [ByteArray.toList_eq, toB_data]
    by_cases hu : u = []
    · have b1 : l.length ≤ 9223372036854775807 := by omega
      have b2 : totL l ≤ 9223372036854775807 := by omega
      rw [if_pos hu, primitives_is l b1 b2 k (by omega), if_neg (fun hc => hc hu)]
      simp only [Option.bind_some]
      by_cases h : totL l > 1024
      · rw [if_pos (by omega), if_pos h]
      · rw [if_neg (by omega), if_neg h]
    · rw [if_neg hu, if_pos hu]
theorem awake04 (k : Nat) (hk : 20000 < k) : keyeventlaw04_awake.f k = some true := by
  unfold keyeventlaw04_awake.f
  rw [encode_is [⟨1, []⟩] (by simp) (by simp [totL]) k hk]
  have h : encS [(⟨1, []⟩ : GI)] = ([45, 65, 65, 65], 0) := by decide +kernel
  rw [h]
  simp only [Option.bind_some]
  rw [ByteArray.toList_eq, toB_data, if_pos rfl]
  rfl
theorem encGs_len : ∀ l : List GI, (encGs l).1.length ≤ 836 * totL l + 4 * l.length
  | [] => by simp [encGs]
  | g :: r => by
    have ih := encGs_len r
    have h1 := encIs_len g.f1
    have ht : totL (g :: r) = g.f1.length + totL r := by simp [totL]
    have hm : (markL g.f0 (cntOf g)).length = 4 := rfl
    have he : encGs (g :: r) = if (encIs g.f1).2 = 0 then (if (encGs r).2 = 0 then (markL g.f0 (cntOf g) ++ (encIs g.f1).1 ++ (encGs r).1, 0) else ([], (encGs r).2)) else ([], (encIs g.f1).2) := rfl
    rw [he, List.length_cons, ht]
    split
    · split
      · rw [List.length_append, List.length_append]; omega
      · simp
    · simp
theorem encS_len (l : List GI) : (encS l).1.length ≤ 836 * totL l + 4 * l.length := by
  unfold encS
  split
  · simp
  · split
    · exact encGs_len l
    · simp
end Go.Proofs.Ytookjdhfpbmjkaa.Pure
