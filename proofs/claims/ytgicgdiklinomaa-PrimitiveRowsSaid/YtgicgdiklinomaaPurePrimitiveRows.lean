/- Several primitives, one after the other, are read one after the other, also after they were turned into the binary form and back. For every list of numbers. -/
import Derived.Test.YtgicgdiklinomaaFacts03b
import Derived.Test.YtgicgdiklinomaaFactsKit
import Derived.Test.YtgicgdiklinomaaX0
import Derived.Test.YtgicgdiklinomaaX14
import Derived.Test.YtgicgdiklinomaaX2
import Derived.Test.YtgicgdiklinomaaX7
namespace Go.Proofs.Ytgicgdiklinomaa.Pure
open Go.RowKit Go.Proofs.Ytgicgdiklinomaa.X Go.Proofs.YtgicgdiklinomaaW.PrintWords Go.Proofs.YtgicgdiklinomaaW.PrintLast
set_option linter.unusedVariables false
set_option linter.unusedSimpArgs false

def flatP (x : List S29) : List UInt8 := x.flatMap fun p => (encP p.f0 p.f1.data.toList).1
def okP (x : List S29) : Prop := ∀ p ∈ x, formOk p.f0 = true ∧ p.f1.data.toList.length = rwN p.f0
theorem flatP_good (x : List S29) (h : okP x) : (flatP x).length % 4 = 0 ∧ (∀ c ∈ flatP x, (vl c).isSome = true) ∧ (flatP x).length ≤ 836 * x.length := by
  induction x with
  | nil => exact ⟨rfl, by simp [flatP], by simp [flatP]⟩
  | cons p x ih =>
    obtain ⟨h1, h2, h3⟩ := ih (fun q hq => h q (List.mem_cons_of_mem _ hq))
    obtain ⟨a1, a2⟩ := h p (List.mem_cons_self ..)
    obtain ⟨b1, b2⟩ := encP_digits a1 a2
    have hs := encP_size_le p.f0 p.f1.data.toList
    have he : flatP (p :: x) = (encP p.f0 p.f1.data.toList).1 ++ flatP x := by simp [flatP]
    rw [he]
    refine ⟨by rw [List.length_append]; omega, fun c hc => ?_, by rw [List.length_append, List.length_cons]; omega⟩
    rcases List.mem_append.1 hc with h | h
    · exact b1 c h
    · exact h2 c h
theorem rows_l1 (x : List S29) (hx : okP x) (hl : x.length ≤ 1000) (d : Nat) : ∀ (k i : Nat), x.length - i = d → i ≤ x.length → d + 1000 < k →
    keyeventlaw03_PrimitiveRows.l1 k (toB (flatP (x.drop i))) x (x.length : Int) (i : Int) = some true := by
  induction d with
  | zero =>
    intro k i hd hi hk
    obtain ⟨k, rfl⟩ : ∃ m, k = m + 1 := ⟨k - 1, by omega⟩
    simp only [keyeventlaw03_PrimitiveRows.l1]
    rw [if_neg (by omega), List.drop_of_length_le (by omega), primitive_Decode_is _ k (by omega), awake03 k (by omega), ByteArray.toList_eq, toB_data]
    have : decP (flatP []) = (0, [], 0, 7) := by decide +kernel
    rw [this]
    rfl
  | succ d ih =>
    intro k i hd hi hk
    obtain ⟨k, rfl⟩ : ∃ m, k = m + 1 := ⟨k - 1, by omega⟩
    have hlt : i < x.length := by omega
    obtain ⟨a1, a2⟩ := hx x[i] (List.getElem_mem hlt)
    obtain ⟨f1, f2, f3, f4, f5, f6, f7, f8, f9, f10⟩ := k_facts a1
    have hf : flatP (x.drop i) = (encP x[i].f0 x[i].f1.data.toList).1 ++ flatP (x.drop (i + 1)) := by rw [List.drop_eq_getElem_cons hlt]; rfl
    obtain ⟨h1, h2, _⟩ := decP_encP a1 a2 (flatP (x.drop (i + 1)))
    have hrd : rd_T29 x (i : Int) = x[i] := by simp [rd_T29, List.getD, hlt]
    simp only [keyeventlaw03_PrimitiveRows.l1]
    rw [if_pos (by omega), if_pos (by omega), if_pos (by omega), primitive_Decode_is _ k (by omega), toB_data, hf, h1, hrd]
    simp only [Option.bind_some, if_true]
    have hsz : (toB ((encP x[i].f0 x[i].f1.data.toList).1 ++ flatP (x.drop (i + 1)))).size = szN x[i].f0 + (flatP (x.drop (i + 1))).length := by rw [toB_size, List.length_append, h2]
    have hex : (toB ((encP x[i].f0 x[i].f1.data.toList).1 ++ flatP (x.drop (i + 1)))).extract (szN x[i].f0 : Int).toNat (toB ((encP x[i].f0 x[i].f1.data.toList).1 ++ flatP (x.drop (i + 1)))).size = toB (flatP (x.drop (i + 1))) := by
      rw [extract_toB, toB_data, toB_size, List.take_length, Int.toNat_natCast, ← h2, List.drop_left]
    rw [if_neg (by simp [toB_of]), hex, hsz, if_neg (by omega), if_pos (by omega), if_pos (by omega), fwrap_id (by omega) (by omega)]
    have := ih k (i + 1) (by omega) (by omega) (by omega)
    rw [show ((i : Int) + 1) = ((i + 1 : Nat) : Int) by omega]
    exact this
theorem rows_l0 (l : List Int) (hl : l.length ≤ 500) (d : Nat) : ∀ (k : Nat) (x : List S29) (n i at_ : Int), n - i = d → okP x → x.length ≤ i → 0 ≤ i → n ≤ 6 → d + 100000 < k → 0 ≤ at_ → at_ ≤ l.length →
    keyeventlaw03_PrimitiveRows.l0 k x (toB (flatP x)) n i l at_ = some true := by
  induction d with
  | zero =>
    intro k x n i at_ hd hx hxi hi hn hk h0 h1
    obtain ⟨k, rfl⟩ : ∃ m, k = m + 1 := ⟨k - 1, by omega⟩
    obtain ⟨k, rfl⟩ : ∃ m, k = m + 1 := ⟨k - 1, by omega⟩
    obtain ⟨g1, g2, g3⟩ := flatP_good x hx
    obtain ⟨m, b1, b2, _⟩ := binary_text (flatP x) g1 g2 (by omega) (k + 1) (by omega)
    have := rows_l1 x hx (by omega) x.length k 0 (by omega) (by omega) (by omega)
    rw [List.drop_zero] at this
    simp only [keyeventlaw03_PrimitiveRows.l0]
    rw [if_neg (by omega), b1]
    simp only [Option.bind_some]
    rw [b2]
    simp only [Option.bind_some, if_true]
    simp only [keyeventlaw03_PrimitiveRows.j1]
    rw [if_neg (by simp)]
    exact this
  | succ d ih =>
    intro k x n i at_ hd hx hxi hi hn hk h0 h1
    obtain ⟨k, rfl⟩ : ∃ m, k = m + 1 := ⟨k - 1, by omega⟩
    obtain ⟨c, r, j, hp, hc1, hc2, hj0, hj1⟩ := prim_is l hl at_ h0 h1 k (by omega)
    simp only [keyeventlaw03_PrimitiveRows.l0]
    rw [if_pos (by omega), hp]
    simp only [Option.bind_some]
    rw [primitive_Encode_is _ _ k (by omega)]
    simp only [Option.bind_some]
    rw [fwrap_id (by omega) (by omega)]
    by_cases he : (encP c r.data.toList).2 = 0
    · obtain ⟨ho, hr⟩ := encP_ok he
      have hs := encP_size_le c r.data.toList
      obtain ⟨_, _, g3⟩ := flatP_good x hx
      rw [if_pos he, if_pos (by omega), if_pos (by rw [toB_size, toB_size]; omega), toB_app]
      have hf : flatP x ++ (encP c r.data.toList).1 = flatP (x ++ [⟨c, r⟩]) := by simp [flatP]
      rw [hf]
      refine ih k _ n (i + 1) j (by omega) (fun p hp => ?_) (by simp; omega) (by omega) hn (by omega) hj0 hj1
      rcases List.mem_append.1 hp with h | h
      · exact hx p h
      · simp only [List.mem_singleton] at h
        subst h
        exact ⟨ho, hr⟩
    · rw [if_neg he]
      exact ih k x n (i + 1) j (by omega) hx (by omega) (by omega) hn (by omega) hj0 hj1
theorem PrimitiveRows : keyeventlaw03_PrimitiveRows.Pure := by
  intro l _ _ _
  obtain ⟨K, hK⟩ : ∃ K : Nat, 150000 < K := ⟨150001, Nat.lt_succ_self _⟩
  refine ⟨K, ?_⟩
  unfold keyeventlaw03_PrimitiveRows.f keyeventkit_Light.f keyeventkit_Roll.f
  rw [awake03 K (by omega)]
  simp only [Option.bind_some]
  by_cases hl : l.length ≤ 500
  · rw [if_pos (by simp; omega)]
    obtain ⟨n, j, e, n0, n1, j0, j1⟩ := next_is l hl 0 6 (by omega) (by omega) (by omega) (by omega)
    rw [e]
    simp only [Option.bind_some]
    exact rows_l0 l hl n.toNat K [] n 0 j (by omega) (fun p hp => by simp at hp) (by simp) (by omega) (by omega) (by omega) j0 j1
  · rw [if_neg (by simp; omega)]
end Go.Proofs.Ytgicgdiklinomaa.Pure
