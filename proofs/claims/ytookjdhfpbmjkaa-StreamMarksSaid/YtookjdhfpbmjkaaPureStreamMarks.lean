/- A mark says how many items a group has: a text whose mark says more is not read. For every list of numbers and every number. -/
import Derived.Test.YtookjdhfpbmjkaaFacts04b
import Derived.Test.YtookjdhfpbmjkaaX10
import Derived.Test.YtookjdhfpbmjkaaX12
import Derived.Test.YtookjdhfpbmjkaaX13
namespace Go.Proofs.Ytookjdhfpbmjkaa.Pure
open Go.RowKit Go.Proofs.Ytookjdhfpbmjkaa.X Go.Proofs.YtookjdhfpbmjkaaW.PrintWords Go.Proofs.YtookjdhfpbmjkaaW.PrintLast
set_option linter.unusedVariables false
set_option linter.unusedSimpArgs false

theorem rdN_more (p : List Int) (hp : p ≠ []) : ∀ (n m : Nat) (l : List PI), (encIs l).2 = 0 → l.map (·.f0) = (List.replicate n p).flatten → n < m → ∃ e, rdN m p (encIs l).1 = .error e
  | 0, m, l, h, hm, hlt => by
    obtain ⟨m, rfl⟩ : ∃ q, m = q + 1 := ⟨m - 1, by omega⟩
    simp only [List.replicate_zero, List.flatten_nil, List.map_eq_nil_iff] at hm
    subst hm
    cases p with
    | nil => exact absurd rfl hp
    | cons c r =>
      have : (decP (encIs []).1).2.2.2 = 7 := by
        simp only [encIs]
        decide +kernel
      refine ⟨7, ?_⟩
      rw [rdN, rdPat, if_neg (by rw [this]; decide), this]
  | n + 1, m, l, h, hm, hlt => by
    obtain ⟨m, rfl⟩ : ∃ q, m = q + 1 := ⟨m - 1, by omega⟩
    rw [List.replicate_succ, List.flatten_cons] at hm
    obtain ⟨a, b, rfl, ha, hb⟩ := List.map_eq_append_iff.1 hm
    obtain ⟨h1, h2⟩ := encIs_part a b h
    rw [encIs_app a b h1 h2]
    simp only
    obtain ⟨e, he⟩ := rdN_more p hp n m b h2 hb (by omega)
    refine ⟨e, ?_⟩
    rw [rdN, ← ha, rdPat_of a _ h1]
    simp only
    rw [ha, he]
set_option maxRecDepth 20000 in
theorem marks_k (l : List Int) (a : Int) (k : Nat) (hk : 30000 < k) : keyeventlaw04_StreamMarks.f k l a = some true := by
  unfold keyeventlaw04_StreamMarks.f keyeventkit_Light.f keyeventkit_Roll.f
  rw [awake04 k (by omega)]
  simp only [Option.bind_some]
  by_cases hl : l.length ≤ 500
  · rw [if_pos (by simp; omega)]
    obtain ⟨c, its, j, hg, g1, _, _⟩ := draw_is l hl 0 (by omega) (by omega) k (by omega)
    rw [hg]
    simp only [Option.bind_some]
    rw [encode_is [⟨c, its⟩] (by simp) (by simp [totL]; omega) k (by omega)]
    simp only [Option.bind_some]
    by_cases he : (encS [⟨c, its⟩]).2 = 0
    · rw [if_pos he, permitted_is]
      simp only [Option.bind_some]
      have hen : encS [(⟨c, its⟩ : GI)] = ((encS [⟨c, its⟩]).1, 0) := Prod.ext rfl he
      have ht : ¬ totL [(⟨c, its⟩ : GI)] > 1024 := by simp [totL]; omega
      have hf : folL ⟨c, its⟩ = true := by
        unfold encS at he
        rw [if_neg ht] at he
        by_cases h : [(⟨c, its⟩ : GI)].all folL = true
        · simpa using h
        · rw [if_neg h] at he; simp at he
      have hfd := of_decide_eq_true (show decide (patOf c ≠ [] ∧ its.map (·.f0) = (List.replicate (cntOf ⟨c, its⟩) (patOf c)).flatten) = true from hf)
      obtain ⟨hp, hm⟩ := hfd
      have hkn := patOf_ok hp
      have h0 : 0 < (patOf c).length := List.length_pos_iff.2 hp
      have hcnt : cntOf ⟨c, its⟩ = its.length / (patOf c).length := rfl
      have hcl := cnt_le ⟨c, its⟩
      simp only at hcl
      have hmod := ((fol_iff (patOf c) hp its).1 hm).1
      have hs : (encS [(⟨c, its⟩ : GI)]).1 = markL c (cntOf ⟨c, its⟩) ++ (encIs its).1 ∧ (encIs its).2 = 0 := by
        unfold encS at he ⊢
        rw [if_neg ht, if_pos (by simpa using hf)] at he ⊢
        obtain ⟨e1, e2, e3⟩ := encGs_cons he
        rw [e3]
        exact ⟨by simp [encGs], e1⟩
      obtain ⟨hs1, hs2⟩ := hs
      have hb : (((its.length : Int) % ((patOf c).length : Int)) != 0) = false := by rw [bne_eq_false_iff_eq]; omega
      rw [if_neg (by omega), hb]
      obtain ⟨k, rfl⟩ : ∃ m, k = m + 1 := ⟨k - 1, by omega⟩
      simp only [keyeventlaw04_StreamMarks.j0]
      have hmodA := Int.emod_nonneg a (show (9 : Int) ≠ 0 by omega)
      have hmodB := Int.emod_lt_of_pos a (show (0 : Int) < 9 by omega)
      obtain ⟨q, hq⟩ := Int.eq_ofNat_of_zero_le hmodA
      have hq9 : q < 9 := by omega
      have hdiv : ((its.length : Int) / ((patOf c).length : Int)) = (cntOf ⟨c, its⟩ : Int) := by rw [hcnt]; omega
      rw [if_neg (by simp), if_neg (by omega), hdiv, wrap_nat (by omega), mark_is hkn (by omega) (by omega), mod_is a 9 (by omega) (by omega), hq]
      simp only [Option.bind_some]
      rw [show ((cntOf ⟨c, its⟩ : Nat) : Int) + 1 = ((cntOf ⟨c, its⟩ + 1 : Nat) : Int) by omega, wrap_nat (by omega), show ((cntOf ⟨c, its⟩ + 1 : Nat) : Int) + (q : Int) = ((cntOf ⟨c, its⟩ + 1 + q : Nat) : Int) by omega, wrap_nat (by omega), mark_is hkn (by omega) (by omega)]
      simp only [Option.bind_some]
      have hlen := encS_len [(⟨c, its⟩ : GI)]
      have hte : totL [(⟨c, its⟩ : GI)] = its.length := by simp [totL]
      have hsz : (encS [(⟨c, its⟩ : GI)]).1.length = 4 + (encIs its).1.length := by rw [hs1, List.length_append]; rfl
      rw [hte, List.length_singleton] at hlen
      have hdrop : (toB (encS [(⟨c, its⟩ : GI)]).1).extract 4 (toB (encS [(⟨c, its⟩ : GI)]).1).size = toB (encIs its).1 := by
        rw [extract_toB, toB_data, toB_size, List.take_length, hs1]
        rfl
      have htake : ((toB (encS [(⟨c, its⟩ : GI)]).1).extract 0 4).toList = (toB (markL c (cntOf ⟨c, its⟩))).toList := by
        rw [ByteArray.toList_eq, ByteArray.toList_eq, data_extract, toB_data, toB_data, hs1]
        rfl
      have hgt : (encIs its).1.length ≤ 4000 := by omega
      have hjoin : (toB (markL c (cntOf ⟨c, its⟩ + 1 + q)) ++ toB (encIs its).1) = toB (markL c (cntOf ⟨c, its⟩ + 1 + q) ++ (encIs its).1) := toB_app _ _
      have hml : (markL c (cntOf ⟨c, its⟩ + 1 + q) ++ (encIs its).1).length = 4 + (encIs its).1.length := by rw [List.length_append]; rfl
      have hml2 : (toB (markL c (cntOf ⟨c, its⟩ + 1 + q))).size = 4 := by rw [toB_size]; rfl
      have hbad : ∃ e, decS (markL c (cntOf ⟨c, its⟩ + 1 + q) ++ (encIs its).1) = ([], e) ∧ e ≠ 0 := by
        obtain ⟨e, hre⟩ := rdN_more (patOf c) hp (cntOf ⟨c, its⟩) (cntOf ⟨c, its⟩ + 1 + q) its hs2 hm (by omega)
        have hG : rdG (markL c (cntOf ⟨c, its⟩ + 1 + q) ++ (encIs its).1) = .error e := by
          unfold rdG markL
          simp only [List.cons_append, List.nil_append, List.length_cons, List.getD_cons_zero, List.getD_cons_succ, List.drop_succ_cons, List.drop_zero]
          rw [if_neg (by simp), num2_dg (by omega)]
          simp only
          rw [numOf_mark hkn, if_neg (by rcases knd_cases hkn with h | h | h | h <;> omega), hre]
        refine ⟨e, ?_, rdG_err hG⟩
        unfold decS
        rw [rdS]
        have h1 : (markL c (cntOf ⟨c, its⟩ + 1 + q) ++ (encIs its).1).getD 0 0 = 45 := by simp [markL]
        have h2 : markL c (cntOf ⟨c, its⟩ + 1 + q) ++ (encIs its).1 ≠ [] := by simp [markL]
        rw [if_pos ⟨h1, h2⟩, hG]
      obtain ⟨e, hde, hne⟩ := hbad
      rw [hdrop, if_pos (by rw [toB_size]; omega), if_pos (by rw [hml2, toB_size]; omega), hjoin, decode_is _ (by omega) k (by omega), hde]
      simp only [Option.bind_some, if_true]
      rw [if_pos (by decide), if_pos htake, if_neg hne, if_pos (by simp)]
      rw [awake04 k (by omega)]
      rfl
    · rw [if_neg he]
  · rw [if_neg (by simp; omega)]
theorem StreamMarks : keyeventlaw04_StreamMarks.Pure := fun l a _ _ _ _ => ⟨30001, marks_k l a 30001 (by omega)⟩
end Go.Proofs.Ytookjdhfpbmjkaa.Pure
