/- The program's functions for groups come to what the lists say: marks, texts of groups, and groups of texts. Conditions: each lemma's own (sizes, and rounds enough). -/
import Derived.Test.YtookjdhfpbmjkaaLaws04
import Derived.Test.YtookjdhfpbmjkaaFactsNum
import Derived.Test.YtookjdhfpbmjkaaX0
import Derived.Test.YtookjdhfpbmjkaaX2
import Derived.Test.YtookjdhfpbmjkaaX3
import Derived.Test.YtookjdhfpbmjkaaX5
namespace Go.Proofs.Ytookjdhfpbmjkaa.Pure
open Go.RowKit Go.Proofs.Ytookjdhfpbmjkaa.X Go.Proofs.YtookjdhfpbmjkaaW.PrintWords Go.Proofs.YtookjdhfpbmjkaaW.PrintLast
set_option linter.unusedVariables false
set_option linter.unusedSimpArgs false

theorem mark_is {c : Int} (hc : kndOk c = true) {n : Nat} (h : n < 4096) {k : Nat} (hk : 6 ≤ k) : stream_Mark.f k c (n : Int) = some (toB (markL c n), 0) := by
  unfold stream_Mark.f
  rw [if_pos ⟨hc, by omega, by omega⟩, number2_is h hk]
  simp only [Option.bind_some]
  rw [toB_size, if_pos (by simp), strOfNums_eq, toB_app]
  rfl
theorem permitted_is (c : Int) : stream_Permitted.f c = some (patOf c) := rfl
theorem pat_len (c : Int) : (patOf c).length ≤ 2 := by
  unfold patOf
  repeat' split
  all_goals simp
/-! ### Following a pattern -/
theorem flat_get {α : Type} (z : α) (p : List α) : ∀ (n j : Nat), j < n * p.length → (List.replicate n p).flatten.getD j z = p.getD (j % p.length) z
  | 0, j, h => by simp at h
  | n + 1, j, h => by
    rw [List.replicate_succ, List.flatten_cons]
    rw [Nat.succ_mul] at h
    by_cases hj : j < p.length
    · rw [Nat.mod_eq_of_lt hj, List.getD_eq_getElem?_getD, List.getElem?_append_left hj, List.getD_eq_getElem?_getD]
    · have h0 : 0 < p.length := by
        rcases Nat.eq_zero_or_pos p.length with h0 | h0
        · rw [h0] at h; simp at h
        · exact h0
      rw [List.getD_eq_getElem?_getD, List.getElem?_append_right (by omega), ← List.getD_eq_getElem?_getD, flat_get z p n (j - p.length) (by omega)]
      congr 1
      conv => rhs; rw [show j = (j - p.length) + p.length by omega, Nat.add_mod_right]
theorem rdT_get (l : List PI) (j : Nat) (h : j < l.length) : rd_T27 l (j : Int) = l[j] := by
  unfold rd_T27
  rw [Int.toNat_natCast, List.getD, List.getElem?_eq_getElem h, Option.getD_some]
theorem rdG_get (l : List GI) (j : Nat) (h : j < l.length) : rd_T25 l (j : Int) = l[j] := by
  unfold rd_T25
  rw [Int.toNat_natCast, List.getD, List.getElem?_eq_getElem h, Option.getD_some]
theorem fol_iff (p : List Int) (hp : p ≠ []) (l : List PI) : l.map (·.f0) = (List.replicate (l.length / p.length) p).flatten ↔ l.length % p.length = 0 ∧ ∀ j : Nat, j < l.length → (rd_T27 l (j : Int)).f0 = p.getD (j % p.length) 0 := by
  have h0 : 0 < p.length := List.length_pos_iff.2 hp
  have hd := Nat.div_add_mod l.length p.length
  constructor
  · intro h
    have hl := congrArg List.length h
    rw [List.length_map, flat_len] at hl
    refine ⟨by rw [Nat.mul_comm] at hl; omega, fun j hj => ?_⟩
    rw [rdT_get l j hj, ← flat_get 0 p (l.length / p.length) j (by omega), ← h]
    simp [List.getD, hj]
  · rintro ⟨h1, h2⟩
    have hn : l.length / p.length * p.length = l.length := by rw [Nat.mul_comm]; omega
    apply List.ext_getElem
    · rw [List.length_map, flat_len, hn]
    · intro j a b
      rw [List.length_map] at a
      have := h2 j a
      rw [rdT_get l j a, ← flat_get 0 p (l.length / p.length) j (by rw [hn]; exact a)] at this
      simp only [List.getElem_map]
      rw [this, List.getD_eq_getElem?_getD, List.getElem?_eq_getElem b, Option.getD_some]
theorem wrap_nat {n : Nat} (h : n ≤ 9223372036854775807) : wrap64 (n : Int) = (n : Int) := by unfold wrap64; omega
theorem follows_l0 (p : List Int) (hp : p ≠ []) (l : List PI) (hl : l.length ≤ 1000000) (d : Nat) : ∀ (i k : Nat), i + d = l.length → d < k →
    ∃ b, stream_follows.l0 k p l (l.length : Int) (i : Int) = some b ∧ (b = true ↔ ∀ j : Nat, i ≤ j → j < l.length → (rd_T27 l (j : Int)).f0 = p.getD (j % p.length) 0) := by
  have h0 : 0 < p.length := List.length_pos_iff.2 hp
  induction d with
  | zero =>
    intro i k hd hk
    obtain ⟨k, rfl⟩ : ∃ m, k = m + 1 := ⟨k - 1, by omega⟩
    simp only [stream_follows.l0]
    rw [if_neg (by omega)]
    exact ⟨true, rfl, fun _ j h1 h2 => by omega, fun _ => rfl⟩
  | succ d ih =>
    intro i k hd hk
    obtain ⟨k, rfl⟩ : ∃ m, k = m + 1 := ⟨k - 1, by omega⟩
    simp only [stream_follows.l0]
    have hm : Int.tmod (i : Int) (p.length : Int) = ((i % p.length : Nat) : Int) := by
      rw [Int.tmod_eq_emod_of_nonneg (by omega)]; omega
    have hlt := Nat.mod_lt i h0
    rw [if_pos (by omega), if_pos (by omega), if_pos (by omega), if_neg (by omega), hm, if_pos (by omega), if_pos (by omega)]
    have hr : rd p ((i % p.length : Nat) : Int) = p.getD (i % p.length) 0 := by unfold rd; rw [Int.toNat_natCast]
    rw [hr, show ((i : Int) + 1) = ((i + 1 : Nat) : Int) by omega, wrap_nat (by omega)]
    by_cases he : (rd_T27 l (i : Int)).f0 = p.getD (i % p.length) 0
    · obtain ⟨b, hb, hbi⟩ := ih (i + 1) k (by omega) (by omega)
      rw [if_pos he]
      refine ⟨b, hb, hbi.trans ⟨fun h j h1 h2 => ?_, fun h j h1 h2 => h j (by omega) h2⟩⟩
      rcases Nat.eq_or_lt_of_le h1 with rfl | h1
      · exact he
      · exact h j h1 h2
    · rw [if_neg he]
      refine ⟨false, rfl, fun h => by simp at h, fun h => ?_⟩
      exact absurd (h i (by omega) (by omega)) he
theorem follows_is (g : GI) (hl : g.f1.length ≤ 1000000) (k : Nat) (hk : g.f1.length + 1 < k) : stream_follows.f k g.f0 g.f1 = some (folL g) := by
  obtain ⟨k, rfl⟩ : ∃ m, k = m + 1 := ⟨k - 1, by omega⟩
  unfold stream_follows.f folL cntOf
  rw [permitted_is]
  simp only [Option.bind_some]
  by_cases hp : patOf g.f0 = []
  · rw [hp, if_pos (by rfl)]
    simp only [stream_follows.j0]
    rw [if_pos trivial]
    rfl
  · have h0 : 0 < (patOf g.f0).length := List.length_pos_iff.2 hp
    rw [if_neg (by omega)]
    simp only [stream_follows.j0]
    have hfi := fol_iff (patOf g.f0) hp g.f1
    by_cases hm : g.f1.length % (patOf g.f0).length = 0
    · have hb : (((g.f1.length : Int) % ((patOf g.f0).length : Int)) != 0) = false := by
        rw [bne_eq_false_iff_eq]; omega
      rw [hb, if_neg (by simp)]
      obtain ⟨b, hb, hbi⟩ := follows_l0 _ hp _ hl g.f1.length 0 k (by omega) (by omega)
      rw [show (0 : Int) = ((0 : Nat) : Int) from rfl, hb]
      congr 1
      rw [Bool.eq_iff_iff, decide_eq_true_iff, hfi, hbi]
      exact ⟨fun h => ⟨hp, hm, fun j hj => h j (Nat.zero_le _) hj⟩, fun h j _ hj => h.2.2 j hj⟩
    · have hb : (((g.f1.length : Int) % ((patOf g.f0).length : Int)) != 0) = true := by
        rw [bne_iff_ne]; omega
      rw [hb, if_pos rfl]
      congr 1
      symm
      apply decide_eq_false
      rintro ⟨_, h⟩
      exact hm (hfi.1 h).1
/-! ### Counting -/
theorem tot_drop (l : List GI) (i : Nat) (h : i < l.length) : totL (l.drop i) = l[i].f1.length + totL (l.drop (i + 1)) := by
  unfold totL
  rw [List.drop_eq_getElem_cons h, List.map_cons, List.sum_cons]
theorem prims_l0 (l : List GI) (B : Nat) (hB : B ≤ 9223372036854775807) (hl : l.length ≤ B) (d : Nat) : ∀ (i k acc : Nat), i + d = l.length → d < k → acc + totL (l.drop i) ≤ B →
    stream_primitives.l0 k (acc : Int) l (l.length : Int) (i : Int) = some ((acc + totL (l.drop i) : Nat) : Int) := by
  induction d with
  | zero =>
    intro i k acc hd hk hb
    obtain ⟨k, rfl⟩ : ∃ m, k = m + 1 := ⟨k - 1, by omega⟩
    simp only [stream_primitives.l0]
    rw [if_neg (by omega), List.drop_of_length_le (by omega)]
    simp [totL]
  | succ d ih =>
    intro i k acc hd hk hb
    obtain ⟨k, rfl⟩ : ∃ m, k = m + 1 := ⟨k - 1, by omega⟩
    simp only [stream_primitives.l0]
    have hi : i < l.length := by omega
    rw [tot_drop l i hi] at hb ⊢
    rw [if_pos (by omega), if_pos (by omega), if_pos (by omega), rdG_get l i hi]
    rw [show ((acc : Int) + (l[i].f1.length : Int)) = ((acc + l[i].f1.length : Nat) : Int) by omega, wrap_nat (by omega), show ((i : Int) + 1) = ((i + 1 : Nat) : Int) by omega, wrap_nat (by omega)]
    rw [ih (i + 1) k (acc + l[i].f1.length) (by omega) (by omega) (by omega)]
    congr 2
    omega
theorem primitives_is (l : List GI) (hl : l.length ≤ 9223372036854775807) (ht : totL l ≤ 9223372036854775807) (k : Nat) (hk : l.length < k) : stream_primitives.f k l = some (totL l : Int) := by
  unfold stream_primitives.f
  have := prims_l0 l 9223372036854775807 (Nat.le_refl _) hl l.length 0 k 0 (by omega) hk (by simpa using ht)
  simpa using this
/-! ### Writing -/
def outE (out : List UInt8) (r : List UInt8 × Int) : ByteArray × Int := if r.2 = 0 then (toB (out ++ r.1), 0) else (⟨#[]⟩, r.2)
def contE (out : List UInt8) (r rest : List UInt8 × Int) : ByteArray × Int := if r.2 = 0 then outE (out ++ r.1) rest else (⟨#[]⟩, r.2)
theorem encode_l3 (l : List GI) (i : Nat) (hi : i < l.length) (k0 : Nat) (hk0 : 701 ≤ k0) (hl : l[i].f1.length ≤ 5000) (H : ∀ (out : List UInt8) (k : Nat), k0 ≤ k → out.length + 1000 * (totL (l.drop (i + 1)) + (l.drop (i + 1)).length) ≤ 100000000 → stream_Encode.l2 k (toB out) l (i + 1) = some (outE out (encGs (l.drop (i + 1)))))
    (d : Nat) : ∀ (out : List UInt8) (j k : Nat), j + d = l[i].f1.length → d + k0 < k → out.length + 1000 * (d + totL (l.drop (i + 1)) + (l.drop (i + 1)).length) ≤ 100000000 →
    stream_Encode.l3 k (toB out) l i j = some (contE out (encIs (l[i].f1.drop j)) (encGs (l.drop (i + 1)))) := by
  induction d with
  | zero =>
    intro out j k hd hk hb
    obtain ⟨k, rfl⟩ : ∃ m, k = m + 1 := ⟨k - 1, by omega⟩
    simp only [stream_Encode.l3]
    rw [rdG_get l i hi, if_neg (by omega), List.drop_of_length_le (by omega), H out k (by omega) (by omega)]
    simp [encIs, contE]
  | succ d ih =>
    intro out j k hd hk hb
    obtain ⟨k, rfl⟩ : ∃ m, k = m + 1 := ⟨k - 1, by omega⟩
    simp only [stream_Encode.l3]
    have hj : j < l[i].f1.length := by omega
    rw [rdG_get l i hi, if_pos hj, rdT_get _ j hj, primitive_Encode_is _ _ k (by omega), List.drop_eq_getElem_cons hj]
    simp only [Option.bind_some]
    have hsz := encP_size_le (l[i].f1[j]).f0 (l[i].f1[j]).f1.data.toList
    have he : encIs (l[i].f1[j] :: l[i].f1.drop (j + 1)) = if (encI (l[i].f1[j])).2 = 0 then (if (encIs (l[i].f1.drop (j + 1))).2 = 0 then ((encI (l[i].f1[j])).1 ++ (encIs (l[i].f1.drop (j + 1))).1, 0) else ([], (encIs (l[i].f1.drop (j + 1))).2)) else ([], (encI (l[i].f1[j])).2) := rfl
    change (if (encI (l[i].f1[j])).2 = 0 then _ else _) = _
    by_cases h0 : (encI (l[i].f1[j])).2 = 0
    · rw [if_pos h0] at he
      rw [if_pos h0]
      have hb2 : (toB out).size + (toB (encP (l[i].f1[j]).f0 (l[i].f1[j]).f1.data.toList).1).size ≤ 140737488355328 := by rw [toB_size, toB_size]; omega
      rw [if_pos hb2, toB_app, ih _ (j + 1) k (by omega) (by omega) (by rw [List.length_append]; omega)]
      by_cases h1 : (encIs (l[i].f1.drop (j + 1))).2 = 0
      · rw [if_pos h1] at he
        rw [he]
        unfold contE
        rw [if_pos h1, if_pos rfl, List.append_assoc]
        rfl
      · rw [if_neg h1] at he
        rw [he]
        unfold contE
        rw [if_neg h1, if_neg h1]
    · rw [if_neg h0] at he
      rw [if_neg h0, he]
      unfold contE
      rw [if_neg h0]
      rfl
set_option maxRecDepth 20000 in
theorem encode_l2 (l : List GI) (hf : l.all folL = true) (ht : totL l ≤ 4000) (d : Nat) : ∀ (out : List UInt8) (i k : Nat), i + d = l.length → totL (l.drop i) + 3 * d + 710 < k → out.length + 1000 * (totL (l.drop i) + (l.drop i).length) ≤ 100000000 →
    stream_Encode.l2 k (toB out) l i = some (outE out (encGs (l.drop i))) := by
  induction d with
  | zero =>
    intro out i k hd hk hb
    obtain ⟨k, rfl⟩ : ∃ m, k = m + 1 := ⟨k - 1, by omega⟩
    simp only [stream_Encode.l2]
    rw [if_neg (by omega), List.drop_of_length_le (by omega)]
    simp [encGs, outE]
  | succ d ih =>
    intro out i k hd hk hb
    obtain ⟨k, rfl⟩ : ∃ m, k = m + 1 := ⟨k - 1, by omega⟩
    simp only [stream_Encode.l2]
    have hi : i < l.length := by omega
    have hg : folL l[i] = true := List.all_eq_true.1 hf _ (List.getElem_mem hi)
    have hp : patOf l[i].f0 ≠ [] := by unfold folL at hg; exact (of_decide_eq_true hg).1
    have h0 : 0 < (patOf l[i].f0).length := List.length_pos_iff.2 hp
    have hle := tot_le l[i] (List.getElem_mem hi)
    have hcn := cnt_le l[i]
    have htd := tot_drop l i hi
    have hld : (l.drop i).length = (l.drop (i + 1)).length + 1 := by simp; omega
    have hdiv : ((l[i].f1.length : Int) / ((patOf l[i].f0).length : Int)) = (cntOf l[i] : Int) := by unfold cntOf; omega
    rw [if_pos hi, rdG_get l i hi, if_neg (by omega), hdiv, wrap_nat (by omega), mark_is (patOf_ok hp) (by omega) (by omega)]
    simp only [Option.bind_some]
    have e0 : out.length + 4 ≤ 140737488355328 ∧ l[i].f1.length < 4611686018427387904 := ⟨by omega, by omega⟩
    have hml : (markL l[i].f0 (cntOf l[i])).length = 4 := rfl
    rw [toB_size, toB_size, hml, if_pos e0, toB_app]
    clear hml
    have e2 : l[i].f1.length + (totL (l.drop (i + 1)) + 3 * d + 711) < k := by omega
    have e1 : (out ++ markL l[i].f0 (cntOf l[i])).length + 1000 * (l[i].f1.length + totL (l.drop (i + 1)) + (l.drop (i + 1)).length) ≤ 100000000 := by
      have e : (out ++ markL l[i].f0 (cntOf l[i])).length = out.length + 4 := List.length_append
      omega
    have e3 := encode_l3 l i hi (totL (l.drop (i + 1)) + 3 * d + 711) (by omega) (by omega) (fun out k hk hb => ih out (i + 1) k (by omega) (by omega) hb) l[i].f1.length (out ++ markL l[i].f0 (cntOf l[i])) 0 k (Nat.zero_add _) e2 e1
    rw [e3]
    rw [List.drop_zero, List.drop_eq_getElem_cons hi]
    have he : encGs (l[i] :: l.drop (i + 1)) = if (encIs l[i].f1).2 = 0 then (if (encGs (l.drop (i + 1))).2 = 0 then (markL l[i].f0 (cntOf l[i]) ++ (encIs l[i].f1).1 ++ (encGs (l.drop (i + 1))).1, 0) else ([], (encGs (l.drop (i + 1))).2)) else ([], (encIs l[i].f1).2) := rfl
    by_cases h1 : (encIs l[i].f1).2 = 0
    · rw [if_pos h1] at he
      by_cases h2 : (encGs (l.drop (i + 1))).2 = 0
      · rw [if_pos h2] at he
        rw [he]
        unfold contE outE
        rw [if_pos h1, if_pos h2, if_pos rfl]
        simp only [List.append_assoc]
      · rw [if_neg h2] at he
        rw [he]
        unfold contE outE
        rw [if_pos h1, if_neg h2, if_neg h2]
    · rw [if_neg h1] at he
      rw [he]
      unfold contE outE
      rw [if_neg h1, if_neg h1]
theorem ok_is (k : Nat) : ∀ l : List GI, (∀ g ∈ l, g.f1.length ≤ 1000000 ∧ g.f1.length + 1 < k) → stream_Encode.ok k l = some (l.all folL)
  | [], _ => rfl
  | g :: r, h => by
    unfold stream_Encode.ok
    have hg := h g (List.mem_cons_self ..)
    rw [follows_is g hg.1 k hg.2, ok_is k r (fun x hx => h x (List.mem_cons_of_mem _ hx))]
    rfl
set_option maxRecDepth 20000 in
theorem encode_is (l : List GI) (hl : l.length ≤ 5000) (ht : totL l ≤ 4000) (k : Nat) (hk : 20000 < k) : stream_Encode.f k l = some (toB (encS l).1, (encS l).2) := by
  unfold stream_Encode.f encS
  rw [primitives_is l (by omega) (by omega) k (by omega)]
  simp only [Option.bind_some]
  by_cases h : totL l > 1024
  · rw [if_pos (by omega), if_pos h]; rfl
  · rw [if_neg (by omega), if_neg h, if_pos (by omega), ok_is k l (fun g hg => by have := tot_le g hg; omega)]
    simp only [Option.bind_some]
    by_cases hf : l.all folL = true
    · rw [if_pos hf, if_pos hf]
      have := encode_l2 l hf ht l.length [] 0 k (by omega) (by rw [List.drop_zero]; omega) (by rw [List.drop_zero]; simp; omega)
      rw [List.drop_zero] at this
      rw [show (⟨#[]⟩ : ByteArray) = toB [] from rfl, this]
      unfold outE
      by_cases h2 : (encGs l).2 = 0
      · rw [if_pos h2, h2]; rfl
      · rw [if_neg h2]
        have hb : (encS l).1 = [] := encS_bad (by unfold encS; rw [if_neg h, if_pos hf]; exact h2)
        unfold encS at hb
        rw [if_neg h, if_pos hf] at hb
        rw [hb]; rfl
    · rw [if_neg hf, if_neg hf]; rfl
end Go.Proofs.Ytookjdhfpbmjkaa.Pure
