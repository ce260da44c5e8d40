/- Groups come back from their text and from their binary form, and groups can be written one after the other. For every list of numbers. -/
import Derived.Test.YtookjdhfpbmjkaaFacts04b
import Derived.Test.YtookjdhfpbmjkaaFactsBin
import Derived.Test.YtookjdhfpbmjkaaFactsSame
import Derived.Test.YtookjdhfpbmjkaaX10
import Derived.Test.YtookjdhfpbmjkaaX11
import Derived.Test.YtookjdhfpbmjkaaX13
import Derived.Test.YtookjdhfpbmjkaaX14
namespace Go.Proofs.Ytookjdhfpbmjkaa.Pure
open Go.RowKit Go.Proofs.Ytookjdhfpbmjkaa.X Go.Proofs.YtookjdhfpbmjkaaW.PrintWords Go.Proofs.YtookjdhfpbmjkaaW.PrintLast
set_option linter.unusedVariables false
set_option linter.unusedSimpArgs false

theorem encIs_digits : ∀ l : List PI, (encIs l).2 = 0 → (∀ c ∈ (encIs l).1, (vl c).isSome = true) ∧ (encIs l).1.length % 4 = 0
  | [], _ => ⟨by simp [encIs], rfl⟩
  | x :: r, h => by
    obtain ⟨h1, h2, h3⟩ := encIs_cons h
    obtain ⟨i1, i2⟩ := encIs_digits r h2
    obtain ⟨ho, hr⟩ := encP_ok (c := x.f0) (raw := x.f1.data.toList) h1
    obtain ⟨d1, d2⟩ := encP_digits ho hr
    rw [h3]
    refine ⟨fun c hc => ?_, by rw [List.length_append]; unfold encI; omega⟩
    rcases List.mem_append.1 hc with h | h
    · exact d1 c h
    · exact i1 c h
theorem mark_digits {c : Int} (hc : kndOk c = true) (n : Nat) (hn : n < 4096) : ∀ x ∈ markL c n, (vl x).isSome = true := by
  intro x hx
  unfold markL at hx
  simp only [List.mem_cons, List.not_mem_nil, or_false] at hx
  rcases hx with rfl | rfl | rfl | rfl
  · decide +kernel
  · rcases knd_cases hc with rfl | rfl | rfl | rfl <;> decide +kernel
  · rw [vl_dg _ (by omega)]; rfl
  · rw [vl_dg _ (by omega)]; rfl
theorem encGs_digits : ∀ l : List GI, (encGs l).2 = 0 → l.all folL = true → (∀ g ∈ l, cntOf g < 4096) → (∀ c ∈ (encGs l).1, (vl c).isSome = true) ∧ (encGs l).1.length % 4 = 0
  | [], _, _, _ => ⟨by simp [encGs], rfl⟩
  | g :: r, h, hf, hc => by
    obtain ⟨h1, h2, h3⟩ := encGs_cons h
    rw [List.all_cons, Bool.and_eq_true] at hf
    obtain ⟨i1, i2⟩ := encGs_digits r h2 hf.2 (fun x hx => hc x (List.mem_cons_of_mem _ hx))
    obtain ⟨d1, d2⟩ := encIs_digits g.f1 h1
    have hp : patOf g.f0 ≠ [] := by have := hf.1; unfold folL at this; exact (of_decide_eq_true this).1
    have hm : (markL g.f0 (cntOf g)).length = 4 := rfl
    rw [h3]
    refine ⟨fun c hc' => ?_, by rw [List.length_append, List.length_append]; omega⟩
    rcases List.mem_append.1 hc' with h | h
    · rcases List.mem_append.1 h with h | h
      · exact mark_digits (patOf_ok hp) _ (hc g (List.mem_cons_self ..)) c h
      · exact d1 c h
    · exact i1 c h
theorem encS_digits {l : List GI} {t : List UInt8} (h : encS l = (t, 0)) : (∀ c ∈ t, (vl c).isSome = true) ∧ t.length % 4 = 0 := by
  unfold encS at h
  by_cases ht : totL l > 1024
  · rw [if_pos ht] at h; simp at h
  rw [if_neg ht] at h
  by_cases hf : l.all folL = true
  · rw [if_pos hf] at h
    have := encGs_digits l (by rw [h]) hf (fun g hg => by have := tot_le g hg; have := cnt_le g; omega)
    rw [h] at this
    exact this
  · rw [if_neg hf] at h; simp at h
set_option maxRecDepth 20000 in
theorem back_k (l : List Int) (k : Nat) (hk : 100000 < k) : keyeventlaw04_StreamBack.f k l = some true := by
  unfold keyeventlaw04_StreamBack.f keyeventkit_Light.f keyeventkit_Roll.f
  rw [awake04 k (by omega)]
  simp only [Option.bind_some]
  by_cases hl : l.length ≤ 500
  · rw [if_pos (by simp; omega)]
    obtain ⟨a, j, hg, a1, a2, j0, j1⟩ := groups_is l hl 0 (by omega) (by omega) k (by omega)
    obtain ⟨b, j2, hg2, b1, b2, _, _⟩ := groups_is l hl j j0 j1 k (by omega)
    rw [hg]
    simp only [Option.bind_some]
    rw [hg2]
    simp only [Option.bind_some]
    rw [encode_is a (by omega) (by omega) k (by omega)]
    simp only [Option.bind_some]
    rw [encode_is b (by omega) (by omega) k (by omega)]
    simp only [Option.bind_some]
    obtain ⟨k, rfl⟩ : ∃ m, k = m + 1 := ⟨k - 1, by omega⟩
    by_cases he : (encS a).2 = 0
    · rw [if_pos he]
      by_cases hf : (encS b).2 = 0
      · have hea : encS a = ((encS a).1, 0) := Prod.ext rfl he
        have heb : encS b = ((encS b).1, 0) := Prod.ext rfl hf
        have happ := encS_app hea heb (by omega)
        have hda := decS_encS hea
        have hdab := decS_encS happ
        have hla := encS_len a
        have hlb := encS_len b
        obtain ⟨g1, g2⟩ := encS_digits hea
        obtain ⟨m, hm1, hm2, hm3⟩ := binary_text (encS a).1 g2 g1 (by omega) k (by omega)
        simp only [keyeventlaw04_StreamBack.j0]
        rw [hf]
        have hsz : (toB (encS a).1).size + (toB (encS b).1).size ≤ 9223372036854775807 := by rw [toB_size, toB_size]; omega
        rw [if_neg (by simp), if_pos hsz, toB_app]
        have hlen : ((encS a).1 ++ (encS b).1).length = (encS a).1.length + (encS b).1.length := List.length_append
        rw [decode_is _ (by omega) k (by omega), hdab]
        simp only [Option.bind_some]
        unfold stream_Binary.f stream_FromBinary.f
        rw [encode_is a (by omega) (by omega) k (by omega)]
        simp only [Option.bind_some]
        rw [if_pos he, hm1]
        simp only [Option.bind_some]
        rw [hm2]
        simp only [Option.bind_some, if_true]
        rw [decode_is _ (by omega) k (by omega), hda]
        simp only [Option.bind_some, if_true]
        have ht : totL (a ++ b) = totL a + totL b := by simp [totL]
        have hl2 : (a ++ b).length = a.length + b.length := List.length_append
        have q1 : ([] : List GI).length + a.length < 4398046511104 := by simp; omega
        have q2 : ([] ++ a).length + b.length < 4398046511104 := by simp; omega
        rw [if_pos q1, if_pos q2, List.nil_append, same_is (a ++ b) (by omega) (by omega) k (by omega)]
        simp only [Option.bind_some, if_true]
        rw [same_is a (by omega) (by omega) k (by omega)]
        simp only [Option.bind_some, if_true]
        rw [awake04 k (by omega)]
        rfl
      · have hb := encS_bad hf
        simp only [keyeventlaw04_StreamBack.j0]
        rw [if_pos (by simpa using hf), if_pos he, if_neg hf, hb, if_pos (by rw [ByteArray.toList_eq]; rfl), awake04 k (by omega)]
        rfl
    · have ha := encS_bad he
      rw [if_neg he]
      simp only [keyeventlaw04_StreamBack.j0]
      rw [if_pos trivial, if_neg he, ha, if_pos (by rw [ByteArray.toList_eq]; rfl), awake04 k (by omega)]
      by_cases hf : (encS b).2 = 0
      · rw [if_pos hf]; rfl
      · rw [if_neg hf, encS_bad hf, if_pos (by rw [ByteArray.toList_eq]; rfl)]; rfl
  · rw [if_neg (by simp; omega)]
theorem StreamBack : keyeventlaw04_StreamBack.Pure := fun l _ _ _ => ⟨100001, back_k l 100001 (by omega)⟩
end Go.Proofs.Ytookjdhfpbmjkaa.Pure
