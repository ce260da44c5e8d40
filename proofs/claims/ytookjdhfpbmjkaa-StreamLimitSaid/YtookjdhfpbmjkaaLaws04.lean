/- Groups of primitives as lists of bytes: their texts, what a text says, and that one leads back to the other. No program in sight. Conditions: each lemma's own. -/
import Derived.Test.YtookjdhfpbmjkaaFacts03
import Derived.Test.YtookjdhfpbmjkaaKinds
import Derived.Test.YtookjdhfpbmjkaaX0
namespace Go.Proofs.Ytookjdhfpbmjkaa.Pure
open Go.RowKit Go.Proofs.Ytookjdhfpbmjkaa.X Go.Proofs.YtookjdhfpbmjkaaW.PrintWords Go.Proofs.YtookjdhfpbmjkaaW.PrintLast
set_option linter.unusedVariables false
set_option linter.unusedSimpArgs false

abbrev PI := S27
abbrev GI := S25
theorem encP_ok {c : Int} {raw : List UInt8} (h : (encP c raw).2 = 0) : formOk c = true ∧ raw.length = rwN c := by
  unfold encP at h
  split at h
  · rename_i h1
    split at h
    · rename_i h2; exact ⟨h1, h2⟩
    · simp at h
  · simp at h
theorem encP_size_le (c : Int) (raw : List UInt8) : (encP c raw).1.length ≤ 836 := by
  unfold encP
  split
  · rename_i h
    split
    · rename_i h2
      have := (decP_encP h h2 []).2.1
      unfold encP at this
      rw [if_pos h, if_pos h2] at this
      obtain ⟨f1, f2, f3, f4, f5, f6, f7, f8, f9, f10⟩ := k_facts h
      omega
    · simp
  · simp
/-! ### Items -/
def encI (x : PI) : List UInt8 × Int := encP x.f0 x.f1.data.toList
def encIs : List PI → List UInt8 × Int
  | [] => ([], 0)
  | x :: r => if (encI x).2 = 0 then (if (encIs r).2 = 0 then ((encI x).1 ++ (encIs r).1, 0) else ([], (encIs r).2)) else ([], (encI x).2)
theorem encIs_cons {x : PI} {r : List PI} (h : (encIs (x :: r)).2 = 0) : (encI x).2 = 0 ∧ (encIs r).2 = 0 ∧ (encIs (x :: r)).1 = (encI x).1 ++ (encIs r).1 := by
  simp only [encIs] at h ⊢
  by_cases h1 : (encI x).2 = 0
  · rw [if_pos h1] at h ⊢
    by_cases h2 : (encIs r).2 = 0
    · rw [if_pos h2] at h ⊢
      exact ⟨h1, h2, rfl⟩
    · rw [if_neg h2] at h
      exact absurd h h2
  · rw [if_neg h1] at h
    exact absurd h h1
theorem encIs_bad (l : List PI) (h : (encIs l).2 ≠ 0) : (encIs l).1 = [] := by
  cases l with
  | nil => rfl
  | cons x r =>
    unfold encIs at h ⊢
    by_cases h1 : (encI x).2 = 0
    · rw [if_pos h1] at h ⊢
      by_cases h2 : (encIs r).2 = 0
      · rw [if_pos h2] at h; exact absurd rfl h
      · rw [if_neg h2]
    · rw [if_neg h1]
theorem encIs_app : ∀ (l m : List PI), (encIs l).2 = 0 → (encIs m).2 = 0 → encIs (l ++ m) = ((encIs l).1 ++ (encIs m).1, 0)
  | [], m, _, h => by rw [List.nil_append]; exact Prod.ext rfl h
  | x :: r, m, h, hm => by
    obtain ⟨h1, h2, h3⟩ := encIs_cons h
    have ih := encIs_app r m h2 hm
    rw [h3, List.cons_append, encIs, if_pos h1, ih, if_pos rfl, List.append_assoc]
theorem encIs_part : ∀ (l m : List PI), (encIs (l ++ m)).2 = 0 → (encIs l).2 = 0 ∧ (encIs m).2 = 0
  | [], m, h => ⟨rfl, h⟩
  | x :: r, m, h => by
    rw [List.cons_append] at h
    obtain ⟨h1, h2, h3⟩ := encIs_cons h
    obtain ⟨h4, h5⟩ := encIs_part r m h2
    exact ⟨by rw [encIs, if_pos h1, if_pos h4], h5⟩
theorem encIs_len : ∀ l : List PI, (encIs l).1.length ≤ 836 * l.length
  | [] => by simp [encIs]
  | x :: r => by
    have ih := encIs_len r
    have h1 := encP_size_le x.f0 x.f1.data.toList
    unfold encIs
    split
    · split
      · rw [List.length_append, List.length_cons]; unfold encI; omega
      · simp
    · simp
/-! ### Reading -/
def rdPat : List Int → List UInt8 → Except Int (List PI × List UInt8)
  | [], t => .ok ([], t)
  | c :: r, t => if (decP t).2.2.2 = 0 then (if (decP t).1 = c then (match rdPat r (t.drop (decP t).2.2.1.toNat) with | .ok (l, u) => .ok (⟨(decP t).1, toB (decP t).2.1⟩ :: l, u) | .error e => .error e) else .error 7) else .error (decP t).2.2.2
def rdN : Nat → List Int → List UInt8 → Except Int (List PI × List UInt8)
  | 0, _, t => .ok ([], t)
  | n + 1, p, t => match rdPat p t with
    | .ok (l, u) => (match rdN n p u with | .ok (m, v) => .ok (l ++ m, v) | .error e => .error e)
    | .error e => .error e
theorem decP_eq {t : List UInt8} (h : (decP t).2.2.2 = 0) : decP t = ((decP t).1, (decP t).2.1, (decP t).2.2.1, 0) := by
  conv => lhs; rw [show decP t = ((decP t).1, (decP t).2.1, (decP t).2.2.1, (decP t).2.2.2) from rfl, h]
/-- What is read is what was written: patterns. -/
theorem rdPat_back : ∀ (p : List Int) (t : List UInt8) (l : List PI) (u : List UInt8), rdPat p t = .ok (l, u) → (encIs l).2 = 0 ∧ (encIs l).1 ++ u = t ∧ l.map (·.f0) = p
  | [], t, l, u, h => by
    simp only [rdPat, Except.ok.injEq, Prod.mk.injEq] at h
    obtain ⟨rfl, rfl⟩ := h
    exact ⟨rfl, rfl, rfl⟩
  | c :: r, t, l, u, h => by
    unfold rdPat at h
    by_cases h0 : (decP t).2.2.2 = 0
    · rw [if_pos h0] at h
      by_cases h1 : (decP t).1 = c
      · rw [if_pos h1] at h
        split at h
        · rename_i l' u' hr
          simp only [Except.ok.injEq, Prod.mk.injEq] at h
          obtain ⟨rfl, rfl⟩ := h
          obtain ⟨g1, g2, g3⟩ := rdPat_back r _ l' u' hr
          obtain ⟨e1, e2, e3, e4, e5⟩ := encP_decP (decP_eq h0)
          have ex : encI ⟨(decP t).1, toB (decP t).2.1⟩ = (t.take (decP t).2.2.1.toNat, 0) := by
            unfold encI
            rw [toB_data, e3, Int.toNat_natCast]
            exact e5
          refine ⟨?_, ?_, ?_⟩
          · rw [encIs, ex, if_pos rfl, if_pos g1]
          · rw [encIs, ex, if_pos rfl, if_pos g1]
            simp only
            rw [List.append_assoc, g2, List.take_append_drop]
          · rw [List.map_cons, g3, ← h1]
        · cases h
      · rw [if_neg h1] at h; cases h
    · rw [if_neg h0] at h; cases h
/-- What was written is read. -/
theorem rdPat_of : ∀ (l : List PI) (u : List UInt8), (encIs l).2 = 0 → rdPat (l.map (·.f0)) ((encIs l).1 ++ u) = .ok (l, u)
  | [], u, _ => rfl
  | x :: r, u, h => by
    obtain ⟨h1, h2, h3⟩ := encIs_cons h
    obtain ⟨ho, hr⟩ := encP_ok (c := x.f0) (raw := x.f1.data.toList) h1
    have hd := (decP_encP ho hr ((encIs r).1 ++ u)).1
    have hl := (decP_encP ho hr ((encIs r).1 ++ u)).2.1
    rw [h3, List.append_assoc, List.map_cons, rdPat]
    unfold encI
    rw [hd]
    simp only [if_true]
    have hdrop : ((encP x.f0 x.f1.data.toList).1 ++ ((encIs r).1 ++ u)).drop ((szN x.f0 : Int)).toNat = (encIs r).1 ++ u := by
      rw [Int.toNat_natCast, ← hl, List.drop_left]
    rw [hdrop, rdPat_of r u h2]
    simp only [Except.ok.injEq, Prod.mk.injEq, and_true]
    rw [toB_of]
theorem rdN_back (p : List Int) : ∀ (n : Nat) (t : List UInt8) (l : List PI) (u : List UInt8), rdN n p t = .ok (l, u) → (encIs l).2 = 0 ∧ (encIs l).1 ++ u = t ∧ l.map (·.f0) = (List.replicate n p).flatten
  | 0, t, l, u, h => by
    simp only [rdN, Except.ok.injEq, Prod.mk.injEq] at h
    obtain ⟨rfl, rfl⟩ := h
    exact ⟨rfl, rfl, rfl⟩
  | n + 1, t, l, u, h => by
    unfold rdN at h
    split at h
    · rename_i l1 u1 hr
      split at h
      · rename_i m v hm
        simp only [Except.ok.injEq, Prod.mk.injEq] at h
        obtain ⟨rfl, rfl⟩ := h
        obtain ⟨a1, a2, a3⟩ := rdPat_back p t l1 u1 hr
        obtain ⟨b1, b2, b3⟩ := rdN_back p n u1 m v hm
        rw [encIs_app l1 m a1 b1]
        refine ⟨rfl, ?_, ?_⟩
        · simp only
          rw [List.append_assoc, b2, a2]
        · rw [List.map_append, a3, b3, List.replicate_succ, List.flatten_cons]
      · cases h
    · cases h
theorem rdN_of (p : List Int) : ∀ (n : Nat) (l : List PI) (u : List UInt8), (encIs l).2 = 0 → l.map (·.f0) = (List.replicate n p).flatten → rdN n p ((encIs l).1 ++ u) = .ok (l, u)
  | 0, l, u, h, hm => by
    simp only [List.replicate_zero, List.flatten_nil, List.map_eq_nil_iff] at hm
    subst hm
    rfl
  | n + 1, l, u, h, hm => by
    rw [List.replicate_succ, List.flatten_cons] at hm
    obtain ⟨a, b, rfl, ha, hb⟩ := List.map_eq_append_iff.1 hm
    obtain ⟨h1, h2⟩ := encIs_part a b h
    rw [encIs_app a b h1 h2]
    simp only
    rw [List.append_assoc, rdN, ← ha, rdPat_of a _ h1]
    simp only
    rw [ha, rdN_of p n b u h2 hb]
/-! ### Groups -/
def markL (k : Int) (n : Nat) : List UInt8 := [45, UInt8.ofNat (letterOf k).toNat, dg (n / 64), dg (n % 64)]
def cntOf (g : GI) : Nat := g.f1.length / (patOf g.f0).length
def folL (g : GI) : Bool := decide (patOf g.f0 ≠ [] ∧ g.f1.map (·.f0) = (List.replicate (cntOf g) (patOf g.f0)).flatten)
def encGs : List GI → List UInt8 × Int
  | [] => ([], 0)
  | g :: r => if (encIs g.f1).2 = 0 then (if (encGs r).2 = 0 then (markL g.f0 (cntOf g) ++ (encIs g.f1).1 ++ (encGs r).1, 0) else ([], (encGs r).2)) else ([], (encIs g.f1).2)
def totL (l : List GI) : Nat := (l.map (·.f1.length)).sum
def encS (l : List GI) : List UInt8 × Int := if totL l > 1024 then ([], 3) else if l.all folL = true then encGs l else ([], 7)
def rdG (t : List UInt8) : Except Int (GI × List UInt8) :=
  if t.length < 4 ∨ t.getD 0 0 ≠ 45 then .error 4 else
    match numL 0 [t.getD 2 0, t.getD 3 0] with
    | none => .error 4
    | some n => if numOf ((t.getD 1 0).toNat : Int) = 0 then .error 4 else
      match rdN n (patOf (numOf ((t.getD 1 0).toNat : Int))) (t.drop 4) with
      | .ok (l, u) => .ok (⟨numOf ((t.getD 1 0).toNat : Int), l⟩, u)
      | .error e => .error e
def rdS : Nat → List UInt8 → Except Int (List GI × List UInt8)
  | 0, t => .ok ([], t)
  | n + 1, t => if t.getD 0 0 = 45 ∧ t ≠ [] then (match rdG t with
    | .ok (g, u) => (match rdS n u with | .ok (l, v) => .ok (g :: l, v) | .error e => .error e)
    | .error e => .error e) else .ok ([], t)
def decS (t : List UInt8) : List GI × Int := match rdS (t.length + 1) t with
  | .error e => ([], e)
  | .ok (l, u) => if u ≠ [] then ([], 4) else if totL l > 1024 then ([], 3) else (l, 0)
theorem num2 (a b : UInt8) : numL 0 [a, b] = (vl a).bind fun x => (vl b).bind fun y => some (x * 64 + y) := by
  simp only [numL]
  cases vl a <;> simp
theorem num2_some {a b : UInt8} {n : Nat} (h : numL 0 [a, b] = some n) : n < 4096 ∧ a = dg (n / 64) ∧ b = dg (n % 64) := by
  rw [num2] at h
  obtain ⟨x, hx, h⟩ := Option.bind_eq_some_iff.mp h
  obtain ⟨y, hy, h⟩ := Option.bind_eq_some_iff.mp h
  simp only [Option.some.injEq] at h
  obtain ⟨x1, x2⟩ := vl_some hx
  obtain ⟨y1, y2⟩ := vl_some hy
  subst h
  refine ⟨by omega, ?_, ?_⟩
  · rw [show (x * 64 + y) / 64 = x by omega, x2]
  · rw [show (x * 64 + y) % 64 = y by omega, y2]
theorem num2_dg {n : Nat} (h : n < 4096) : numL 0 [dg (n / 64), dg (n % 64)] = some n := by
  rw [num2, vl_dg _ (by omega), vl_dg _ (by omega)]
  simp only [Option.bind_some, Option.some.injEq]
  omega
theorem patOf_ok {k : Int} (h : patOf k ≠ []) : kndOk k = true := by
  unfold patOf at h
  unfold kndOk
  simp only [decide_eq_true_eq]
  by_cases h1 : k = 1
  · omega
  by_cases h2 : k = 2
  · omega
  by_cases h3 : k = 3
  · omega
  by_cases h4 : k = 4
  · omega
  rw [if_neg h1, if_neg h2, if_neg h3, if_neg h4] at h
  exact absurd rfl h
theorem knd_cases {k : Int} (h : kndOk k = true) : k = 1 ∨ k = 2 ∨ k = 3 ∨ k = 4 := by
  simp [kndOk] at h; omega
theorem numOf_mark {k : Int} (h : kndOk k = true) : numOf (((UInt8.ofNat (letterOf k).toNat).toNat : Nat) : Int) = k := by
  rcases knd_cases h with rfl | rfl | rfl | rfl <;> rfl
theorem numOf_back {c : UInt8} (h : numOf ((c.toNat : Nat) : Int) ≠ 0) : kndOk (numOf ((c.toNat : Nat) : Int)) = true ∧ c = UInt8.ofNat (letterOf (numOf ((c.toNat : Nat) : Int))).toNat := by
  have hc : UInt8.ofNat c.toNat = c := by simp
  unfold numOf at h ⊢
  by_cases h1 : (c.toNat : Int) = 65
  · rw [if_pos h1]; exact ⟨rfl, by rw [← hc, show c.toNat = 65 by omega]; rfl⟩
  by_cases h2 : (c.toNat : Int) = 66
  · rw [if_neg h1, if_pos h2]; exact ⟨rfl, by rw [← hc, show c.toNat = 66 by omega]; rfl⟩
  by_cases h3 : (c.toNat : Int) = 67
  · rw [if_neg h1, if_neg h2, if_pos h3]; exact ⟨rfl, by rw [← hc, show c.toNat = 67 by omega]; rfl⟩
  by_cases h4 : (c.toNat : Int) = 71
  · rw [if_neg h1, if_neg h2, if_neg h3, if_pos h4]; exact ⟨rfl, by rw [← hc, show c.toNat = 71 by omega]; rfl⟩
  rw [if_neg h1, if_neg h2, if_neg h3, if_neg h4] at h
  exact absurd rfl h
theorem pat_pos {k : Int} (h : kndOk k = true) : patOf k ≠ [] := by
  rcases knd_cases h with rfl | rfl | rfl | rfl <;> simp [patOf]
theorem flat_len {α : Type} (n : Nat) (p : List α) : (List.replicate n p).flatten.length = n * p.length := by
  induction n with
  | zero => simp
  | succ n ih => rw [List.replicate_succ, List.flatten_cons, List.length_append, ih, Nat.succ_mul]; omega
theorem rdG_of (g : GI) (u : List UInt8) (hf : folL g = true) (he : (encIs g.f1).2 = 0) (hc : cntOf g < 4096) : rdG (markL g.f0 (cntOf g) ++ (encIs g.f1).1 ++ u) = .ok (g, u) := by
  unfold folL at hf
  obtain ⟨hp, hm⟩ := of_decide_eq_true hf
  have hk := patOf_ok hp
  unfold rdG markL
  simp only [List.cons_append, List.nil_append, List.length_cons, List.getD_cons_zero, List.getD_cons_succ, List.drop_succ_cons, List.drop_zero]
  rw [if_neg (by simp), num2_dg hc]
  simp only
  rw [numOf_mark hk, if_neg (by rcases knd_cases hk with h | h | h | h <;> omega), rdN_of _ _ _ _ he hm]
theorem rdG_back {t : List UInt8} {g : GI} {u : List UInt8} (h : rdG t = .ok (g, u)) : folL g = true ∧ (encIs g.f1).2 = 0 ∧ cntOf g < 4096 ∧ markL g.f0 (cntOf g) ++ (encIs g.f1).1 ++ u = t := by
  unfold rdG at h
  by_cases h0 : t.length < 4 ∨ t.getD 0 0 ≠ 45
  · rw [if_pos h0] at h; cases h
  rw [if_neg h0] at h
  have h4 : 4 ≤ t.length := by omega
  have h45 : t.getD 0 0 = 45 := Classical.byContradiction fun hc => h0 (Or.inr hc)
  obtain ⟨a, b, c, d, r, rfl⟩ : ∃ a b c d r, t = a :: b :: c :: d :: r := by
    match t, h4 with
    | a :: b :: c :: d :: r, _ => exact ⟨a, b, c, d, r, rfl⟩
  simp only [List.getD_cons_zero, List.getD_cons_succ, List.drop_succ_cons, List.drop_zero] at h h45
  subst h45
  split at h
  · cases h
  · rename_i n hn
    obtain ⟨hn1, hn2, hn3⟩ := num2_some hn
    by_cases hz : numOf ((b.toNat : Nat) : Int) = 0
    · rw [if_pos hz] at h; cases h
    · rw [if_neg hz] at h
      obtain ⟨hk, hb⟩ := numOf_back hz
      split at h
      · rename_i l v hr
        simp only [Except.ok.injEq, Prod.mk.injEq] at h
        obtain ⟨rfl, rfl⟩ := h
        obtain ⟨e1, e2, e3⟩ := rdN_back _ n r l v hr
        have hp := pat_pos hk
        have hlen : l.length = n * (patOf (numOf ((b.toNat : Nat) : Int))).length := by
          have := congrArg List.length e3
          rw [List.length_map, flat_len] at this
          exact this
        have hcnt : l.length / (patOf (numOf ((b.toNat : Nat) : Int))).length = n := by
          rw [hlen]
          exact Nat.mul_div_cancel _ (List.length_pos_iff.2 hp)
        refine ⟨?_, e1, ?_, ?_⟩
        · unfold folL cntOf
          simp only
          rw [hcnt]
          exact decide_eq_true ⟨hp, e3⟩
        · unfold cntOf; simp only; rw [hcnt]; exact hn1
        · unfold cntOf markL
          simp only
          rw [hcnt, ← hn2, ← hn3, ← hb]
          simp only [List.cons_append, List.nil_append]
          rw [e2]
      · cases h
theorem encGs_cons {g : GI} {r : List GI} (h : (encGs (g :: r)).2 = 0) : (encIs g.f1).2 = 0 ∧ (encGs r).2 = 0 ∧ (encGs (g :: r)).1 = markL g.f0 (cntOf g) ++ (encIs g.f1).1 ++ (encGs r).1 := by
  simp only [encGs] at h ⊢
  by_cases h1 : (encIs g.f1).2 = 0
  · rw [if_pos h1] at h ⊢
    by_cases h2 : (encGs r).2 = 0
    · rw [if_pos h2] at h ⊢
      exact ⟨h1, h2, rfl⟩
    · rw [if_neg h2] at h
      exact absurd h h2
  · rw [if_neg h1] at h
    exact absurd h h1
theorem rdS_back : ∀ (n : Nat) (t : List UInt8) (l : List GI) (u : List UInt8), rdS n t = .ok (l, u) → (encGs l).2 = 0 ∧ (encGs l).1 ++ u = t ∧ l.all folL = true
  | 0, t, l, u, h => by
    simp only [rdS, Except.ok.injEq, Prod.mk.injEq] at h
    obtain ⟨rfl, rfl⟩ := h
    exact ⟨rfl, rfl, rfl⟩
  | n + 1, t, l, u, h => by
    unfold rdS at h
    split at h
    · split at h
      · rename_i g v hg
        split at h
        · rename_i l' w hl
          simp only [Except.ok.injEq, Prod.mk.injEq] at h
          obtain ⟨rfl, rfl⟩ := h
          obtain ⟨a1, a2, a3, a4⟩ := rdG_back hg
          obtain ⟨b1, b2, b3⟩ := rdS_back n v l' w hl
          refine ⟨?_, ?_, ?_⟩
          · rw [encGs, if_pos a2, if_pos b1]
          · rw [encGs, if_pos a2, if_pos b1]
            simp only
            rw [List.append_assoc, b2, a4]
          · rw [List.all_cons, a1, b3]; rfl
        · cases h
      · cases h
    · simp only [Except.ok.injEq, Prod.mk.injEq] at h
      obtain ⟨rfl, rfl⟩ := h
      exact ⟨rfl, rfl, rfl⟩
theorem tot_le {l : List GI} : ∀ g ∈ l, g.f1.length ≤ totL l := by
  induction l with
  | nil => intro g h; simp at h
  | cons a r ih =>
    intro g h
    unfold totL at ih ⊢
    rw [List.map_cons, List.sum_cons]
    rcases List.mem_cons.1 h with rfl | h
    · omega
    · have := ih g h; omega
theorem cnt_le (g : GI) : cntOf g ≤ g.f1.length := Nat.div_le_self _ _
theorem rdPat_err : ∀ (p : List Int) (t : List UInt8) (e : Int), rdPat p t = .error e → e ≠ 0
  | [], t, e, h => by simp [rdPat] at h
  | c :: r, t, e, h => by
    unfold rdPat at h
    by_cases h0 : (decP t).2.2.2 = 0
    · rw [if_pos h0] at h
      by_cases h1 : (decP t).1 = c
      · rw [if_pos h1] at h
        split at h
        · cases h
        · rename_i e' hr
          simp only [Except.error.injEq] at h
          subst h
          exact rdPat_err r _ _ hr
      · rw [if_neg h1] at h
        simp only [Except.error.injEq] at h
        omega
    · rw [if_neg h0] at h
      simp only [Except.error.injEq] at h
      exact h ▸ h0
theorem rdN_err (p : List Int) : ∀ (n : Nat) (t : List UInt8) (e : Int), rdN n p t = .error e → e ≠ 0
  | 0, t, e, h => by simp [rdN] at h
  | n + 1, t, e, h => by
    unfold rdN at h
    split at h
    · split at h
      · cases h
      · rename_i e' hr
        simp only [Except.error.injEq] at h
        subst h
        exact rdN_err p n _ _ hr
    · rename_i e' hr
      simp only [Except.error.injEq] at h
      subst h
      exact rdPat_err p _ _ hr
theorem rdG_err {t : List UInt8} {e : Int} (h : rdG t = .error e) : e ≠ 0 := by
  unfold rdG at h
  split at h
  · simp only [Except.error.injEq] at h; omega
  · split at h
    · simp only [Except.error.injEq] at h; omega
    · split at h
      · simp only [Except.error.injEq] at h; omega
      · split at h
        · cases h
        · rename_i e' hr
          simp only [Except.error.injEq] at h
          subst h
          exact rdN_err _ _ _ _ hr
theorem rdS_err : ∀ (n : Nat) (t : List UInt8) (e : Int), rdS n t = .error e → e ≠ 0
  | 0, t, e, h => by simp [rdS] at h
  | n + 1, t, e, h => by
    unfold rdS at h
    split at h
    · split at h
      · split at h
        · cases h
        · rename_i e' hr
          simp only [Except.error.injEq] at h
          subst h
          exact rdS_err n _ _ hr
      · rename_i e' hr
        simp only [Except.error.injEq] at h
        subst h
        exact rdG_err hr
    · cases h
theorem encS_decS {t : List UInt8} {l : List GI} (h : decS t = (l, 0)) : encS l = (t, 0) := by
  unfold decS at h
  split at h
  · rename_i e he
    simp only [Prod.mk.injEq] at h
    exact absurd h.2 (rdS_err _ _ _ he)
  · rename_i l' u hr
    by_cases hu : u ≠ []
    · rw [if_pos hu] at h; simp at h
    · rw [if_neg hu] at h
      by_cases ht : totL l' > 1024
      · rw [if_pos ht] at h; simp at h
      · rw [if_neg ht] at h
        simp only [Prod.mk.injEq, and_true] at h
        subst h
        have hu0 : u = [] := Classical.byContradiction hu
        subst hu0
        obtain ⟨a1, a2, a3⟩ := rdS_back _ t l' [] hr
        rw [List.append_nil] at a2
        unfold encS
        rw [if_neg ht, if_pos a3]
        exact Prod.ext a2 a1
theorem decS_bad {t : List UInt8} (h : (decS t).2 ≠ 0) : (decS t).1 = [] := by
  unfold decS at h ⊢
  split
  · rfl
  · split
    · rfl
    · split
      · rfl
      · rename_i l u hr hu ht
        simp only [hr] at h
        rw [if_neg hu, if_neg ht] at h
        exact absurd rfl h
theorem rdG_len {t : List UInt8} {g : GI} {u : List UInt8} (h : rdG t = .ok (g, u)) : u.length + 4 ≤ t.length := by
  obtain ⟨_, _, _, h4⟩ := rdG_back h
  rw [← h4, List.length_append, List.length_append]
  unfold markL
  simp
  omega
/-- More rounds read the same. -/
theorem rdS_more : ∀ (n m : Nat) (t : List UInt8), t.length < n → t.length < m → rdS n t = rdS m t
  | 0, m, t, h, _ => by omega
  | n + 1, 0, t, _, h => by omega
  | n + 1, m + 1, t, h1, h2 => by
    unfold rdS
    split
    · split
      · rename_i g u hg
        have := rdG_len hg
        rw [rdS_more n m u (by omega) (by omega)]
      · rfl
    · rfl
theorem encGs_app : ∀ (l m : List GI), (encGs l).2 = 0 → (encGs m).2 = 0 → encGs (l ++ m) = ((encGs l).1 ++ (encGs m).1, 0)
  | [], m, _, h => by rw [List.nil_append]; exact Prod.ext rfl h
  | x :: r, m, h, hm => by
    obtain ⟨h1, h2, h3⟩ := encGs_cons h
    have ih := encGs_app r m h2 hm
    rw [h3, List.cons_append, encGs, if_pos h1, ih, if_pos rfl]
    simp only [List.append_assoc]
theorem rdS_of : ∀ (l : List GI) (n : Nat), (encGs l).2 = 0 → l.all folL = true → (∀ g ∈ l, cntOf g < 4096) → (encGs l).1.length < n → rdS n (encGs l).1 = .ok (l, [])
  | [], n, _, _, _, hn => by
    obtain ⟨n, rfl⟩ : ∃ m, n = m + 1 := ⟨n - 1, by omega⟩
    simp [rdS, encGs]
  | g :: r, n, h, hf, hc, hn => by
    obtain ⟨n, rfl⟩ : ∃ m, n = m + 1 := ⟨n - 1, by omega⟩
    obtain ⟨h1, h2, h3⟩ := encGs_cons h
    rw [List.all_cons, Bool.and_eq_true] at hf
    rw [h3] at hn ⊢
    unfold rdS
    have hm : (markL g.f0 (cntOf g) ++ (encIs g.f1).1 ++ (encGs r).1).getD 0 0 = 45 := by simp [markL]
    have hne : markL g.f0 (cntOf g) ++ (encIs g.f1).1 ++ (encGs r).1 ≠ [] := by simp [markL]
    rw [if_pos ⟨hm, hne⟩, rdG_of g _ hf.1 h1 (hc g (List.mem_cons_self ..))]
    simp only
    rw [rdS_of r n h2 hf.2 (fun x hx => hc x (List.mem_cons_of_mem _ hx)) (by simp only [List.length_append] at hn; simp [markL] at hn; omega)]
theorem decS_encS {l : List GI} {t : List UInt8} (h : encS l = (t, 0)) : decS t = (l, 0) := by
  unfold encS at h
  by_cases ht : totL l > 1024
  · rw [if_pos ht] at h; simp at h
  rw [if_neg ht] at h
  by_cases hf : l.all folL = true
  · rw [if_pos hf] at h
    have h0 : (encGs l).2 = 0 := by rw [h]
    have h1 : (encGs l).1 = t := by rw [h]
    unfold decS
    rw [← h1, rdS_of l _ h0 hf (fun g hg => by have := tot_le g hg; have := cnt_le g; omega) (by omega)]
    simp only
    rw [if_neg (by simp), if_neg ht]
  · rw [if_neg hf] at h; simp at h
theorem encS_app {a b : List GI} {x y : List UInt8} (ha : encS a = (x, 0)) (hb : encS b = (y, 0)) (h : totL a + totL b ≤ 1024) : encS (a ++ b) = (x ++ y, 0) := by
  unfold encS at ha hb ⊢
  have e : totL (a ++ b) = totL a + totL b := by simp [totL]
  rw [if_neg (by omega)] at ha hb ⊢
  by_cases hf : a.all folL = true
  · by_cases hg : b.all folL = true
    · rw [if_pos hf] at ha
      rw [if_pos hg] at hb
      rw [if_pos (by rw [List.all_append, hf, hg]; rfl), encGs_app a b (by rw [ha]) (by rw [hb]), ha, hb]
    · rw [if_neg hg] at hb; simp at hb
  · rw [if_neg hf] at ha; simp at ha
theorem encS_bad {l : List GI} (h : (encS l).2 ≠ 0) : (encS l).1 = [] := by
  unfold encS at h ⊢
  split
  · rfl
  · rename_i h1
    rw [if_neg h1] at h
    split
    · rename_i h2
      rw [if_pos h2] at h
      have key : ∀ l : List GI, (encGs l).2 ≠ 0 → (encGs l).1 = [] := by
        intro l
        cases l with
        | nil => intro h; exact absurd rfl h
        | cons g r =>
          intro h
          simp only [encGs] at h ⊢
          split
          · split
            · rename_i a b; rw [if_pos a, if_pos b] at h; exact absurd rfl h
            · rfl
          · rfl
      exact key l h
    · rfl
end Go.Proofs.Ytookjdhfpbmjkaa.Pure
