/- The table of kinds of groups, as the program's map of four entries holds it: what stream.kinds returns, and what a look into it finds. No conditions. -/
import Derived.Test.YtookjdhfpbmjkaaAid
import Derived.Test.YtookjdhfpbmjkaaProg
import Derived.Test.YtookjdhfpbmjkaaWRepsOne
import Derived.BigQuiet
namespace Go.Proofs.YtookjdhfpbmjkaaW.PrintWords
set_option linter.unusedVariables false
set_option linter.unusedSimpArgs false
open Go.RowKit Go.Proofs
open Go.ChangeMaps (setBlock)

theorem set_push {α : Type} (l : Array α) (x y : α) (b : Nat) (h : b < l.size) : (l.push x).setIfInBounds b y = (l.setIfInBounds b y).push x := by
  apply Array.ext
  · simp
  · intro i h1 h2
    have h1' : i < l.size + 1 := by simpa using h1
    rw [Array.getElem_setIfInBounds (by simpa using h1')]
    simp only [Array.getElem_push, Array.size_setIfInBounds]
    split
    · rename_i e; subst e
      rw [dif_pos h, Array.getElem_setIfInBounds h]
      simp
    · rename_i e
      split
      · rename_i h3
        rw [Array.getElem_setIfInBounds h3, if_neg e]
      · rfl
theorem set_alloc (w : World) (b : Nat) (o x : Obj) (h : b < w.heap.size) : setBlock (w.alloc x) b o = (setBlock w b o).alloc x := by
  have e : (w.heap.push x).setIfInBounds b o = (w.heap.setIfInBounds b o).push x := set_push _ _ _ _ h
  have e1 : setBlock (w.alloc x) b o = { w with heap := (w.heap.push x).setIfInBounds b o } := rfl
  have e2 : (setBlock w b o).alloc x = { w with heap := (w.heap.setIfInBounds b o).push x } := rfl
  rw [e1, e2, e]
theorem set_new (w : World) (o x : Obj) : setBlock (w.alloc x) w.heap.size o = w.alloc o := by
  have e : (w.heap.push x).setIfInBounds w.heap.size o = w.heap.push o := push_set _ _ _
  have e1 : setBlock (w.alloc x) w.heap.size o = { w with heap := (w.heap.push x).setIfInBounds w.heap.size o } := rfl
  have e2 : w.alloc o = { w with heap := w.heap.push o } := rfl
  rw [e1, e2, e]
/-- 'm[k] = v' into a map in some block, at a key that it does not hold. -/
theorem run_insert_at {P : Program} {t kt e : TypeId} (ht : P.underlying t = some (.map kt e)) (hk : P.underlying kt = some (.int .i64))
    {W : World} {b : Nat} {es : Array MapEntry} {c : Nat} (hb : W.heap[b]? = some (.map es c)) (k : Int) (v : Value) (hf : Instr.findNow (.int .i64) (.int .i64 k) es.toList 0 = some none) :
    (Instr.mapUpdate t (.map (some b)) (.int .i64 k) v).run P W = .ok () (setBlock W b (.map (es.push ⟨.int .i64 k, v, c⟩) (c + 1))) := by
  simp [Instr.mapUpdate, run_underlying ht, MapKept.run_getObj_map hb, MapKept.run_checkKey hk (k := .int .i64 k) (by trivial), MapKept.run_findKey hk hf, MapKept.run_setObj_map _ hb, Result.andThen]
  rfl

def kindVal (c : Int) (b n : Nat) : Value := .agg #[.int .u8 c, .slice (some ⟨b, 0, none⟩) n n]
def kindsMap (n : Nat) : Array MapEntry := #[⟨.int .i64 1, kindVal 65 (n + 1) 1, 0⟩, ⟨.int .i64 2, kindVal 66 (n + 2) 1, 1⟩, ⟨.int .i64 3, kindVal 67 (n + 3) 2, 2⟩, ⟨.int .i64 4, kindVal 71 (n + 4) 2, 3⟩]
def ints (l : List Int) : Obj := .cells (l.map (Value.int .i64 ·)).toArray 3 (0, 0)
def kindsWorld (w : World) : World := ((((w.alloc (.map (kindsMap w.heap.size) 4)).alloc (.cells #[.int .i64 7] 3)).alloc (.cells #[.int .i64 7] 3)).alloc (.cells #[.int .i64 3, .int .i64 7] 3)).alloc (.cells #[.int .i64 8, .int .i64 1] 3)
set_option maxHeartbeats 2000000 in
theorem kinds_any (w : World) : Calls Try.prog 42 #[] w fun e w' => e = .returned (.map (some w.heap.size)) ∧ w' = kindsWorld w := by
  have hmm := @run_makeMap Try.prog
  have hi : ∀ (W : World) (es : Array MapEntry) (c : Nat) (k : Int) (v : Value), W.heap[w.heap.size]? = some (.map es c) → Instr.findNow (.int .i64) (.int .i64 k) es.toList 0 = some none → (Instr.mapUpdate 77 (.map (some w.heap.size)) (.int .i64 k) v).run Try.prog W = .ok () (setBlock W w.heap.size (.map (es.push ⟨.int .i64 k, v, c⟩) (c + 1))) :=
    fun W es c k v hb h => run_insert_at Try.underlying77 Try.underlying3 hb k v h
  have n0 : ∀ o, (w.alloc o).heap[w.heap.size]? = some o := fun o => alloc_at w o rfl
  have h1 := fun v => hi ((w.alloc (.map #[] 0)).alloc (.cells #[.int .i64 7] 3)) #[] 0 1 v (alloc_old _ (n0 _)) rfl
  have h2 := fun v v1 => hi (((w.alloc (.map #[⟨.int .i64 1, v1, 0⟩] 1)).alloc (.cells #[.int .i64 7] 3)).alloc (.cells #[.int .i64 7] 3)) #[⟨.int .i64 1, v1, 0⟩] 1 2 v (alloc_old _ (alloc_old _ (n0 _))) rfl
  have h3 := fun v v1 v2 => hi ((((w.alloc (.map #[⟨.int .i64 1, v1, 0⟩, ⟨.int .i64 2, v2, 1⟩] 2)).alloc (.cells #[.int .i64 7] 3)).alloc (.cells #[.int .i64 7] 3)).alloc (.cells #[.int .i64 3, .int .i64 7] 3)) #[⟨.int .i64 1, v1, 0⟩, ⟨.int .i64 2, v2, 1⟩] 2 3 v (alloc_old _ (alloc_old _ (alloc_old _ (n0 _)))) rfl
  have h4 := fun v v1 v2 v3 => hi (((((w.alloc (.map #[⟨.int .i64 1, v1, 0⟩, ⟨.int .i64 2, v2, 1⟩, ⟨.int .i64 3, v3, 2⟩] 3)).alloc (.cells #[.int .i64 7] 3)).alloc (.cells #[.int .i64 7] 3)).alloc (.cells #[.int .i64 3, .int .i64 7] 3)).alloc (.cells #[.int .i64 8, .int .i64 1] 3)) #[⟨.int .i64 1, v1, 0⟩, ⟨.int .i64 2, v2, 1⟩, ⟨.int .i64 3, v3, 2⟩] 3 4 v (alloc_old _ (alloc_old _ (alloc_old _ (alloc_old _ (n0 _))))) rfl
  clear hi n0
  have z1 : ∀ o, w.heap.size < (w.alloc o).heap.size := fun o => by simp
  simp only [set_alloc _ _ _ _ (z1 _), set_alloc _ _ _ _ (show w.heap.size < ((w.alloc _).alloc _).heap.size by simp; omega), set_alloc _ _ _ _ (show w.heap.size < (((w.alloc _).alloc _).alloc _).heap.size by simp; omega), set_alloc _ _ _ _ (show w.heap.size < ((((w.alloc _).alloc _).alloc _).alloc _).heap.size by simp; omega), set_new] at h1 h2 h3 h4
  clear z1
  go_enter Try.func42, Try.ntmps42
  go_wp2
  go_ret
  exact ⟨rfl, rfl⟩
/-! ### Looks -/
def letterOf (k : Int) : Int := if k = 1 then 65 else if k = 2 then 66 else if k = 3 then 67 else if k = 4 then 71 else 0
def patOf (k : Int) : List Int := if k = 1 then [7] else if k = 2 then [7] else if k = 3 then [3, 7] else if k = 4 then [8, 1] else []
def kndOk (k : Int) : Bool := decide (1 ≤ k ∧ k ≤ 4)
def patAt (n : Nat) (k : Int) : Option Addr := if k = 1 then some ⟨n + 1, 0, none⟩ else if k = 2 then some ⟨n + 2, 0, none⟩ else if k = 3 then some ⟨n + 3, 0, none⟩ else if k = 4 then some ⟨n + 4, 0, none⟩ else none
def kindOf (n : Nat) (k : Int) : Value := .agg #[.int .u8 (letterOf k), .slice (patAt n k) (patOf k).length (patOf k).length]
theorem kinds_find (n : Nat) (k : Int) : ∃ r, Instr.findNow (.int .i64) (.int .i64 k) (kindsMap n).toList 0 = some r ∧ (r.map (·.2)).getD (.agg #[.int .u8 0, .slice none 0 0]) = kindOf n k ∧ r.isSome = kndOk k := by
  by_cases h1 : k = 1
  · subst h1; exact ⟨_, rfl, rfl, rfl⟩
  by_cases h2 : k = 2
  · subst h2; exact ⟨_, rfl, rfl, rfl⟩
  by_cases h3 : k = 3
  · subst h3; exact ⟨_, rfl, rfl, rfl⟩
  by_cases h4 : k = 4
  · subst h4; exact ⟨_, rfl, rfl, rfl⟩
  have b : ∀ n : Int, k ≠ n → (k == n) = false := fun n h => by simpa using h
  refine ⟨none, ?_, ?_, ?_⟩
  · simp [kindsMap, Instr.findNow, Instr.sameNow, b 1 h1, b 2 h2, b 3 h3, b 4 h4]
  · simp [kindOf, letterOf, patOf, patAt, h1, h2, h3, h4]
  · simp [kndOk]; omega
theorem zeroKind (w : World) : (zeroValue 76).run Try.prog w = .ok (.agg #[.int .u8 0, .slice none 0 0]) w := by kernel_rfl
theorem kinds_look {w : World} {b n : Nat} (hb : w.heap[b]? = some (.map (kindsMap n) 4)) (k : Int) (co : Bool) : (Instr.lookup 77 (.map (some b)) (.int .i64 k) co).run Try.prog w = .ok (if co then .tuple #[kindOf n k, .bool (kndOk k)] else kindOf n k) w := by
  obtain ⟨r, h1, h2, h3⟩ := kinds_find n k
  rw [run_lookup_at Try.underlying77 Try.underlying3 hb k co h1 (zeroKind _), h2, h3]
theorem kindsWorld_map (w : World) : (kindsWorld w).heap[w.heap.size]? = some (.map (kindsMap w.heap.size) 4) := alloc_old _ (alloc_old _ (alloc_old _ (alloc_old _ (alloc_at _ _ rfl))))
theorem kindsWorld_size (w : World) : (kindsWorld w).heap.size = w.heap.size + 5 := by simp [kindsWorld]
theorem kindsWorld_below (w : World) : Below w.heap.size w (kindsWorld w) := by
  unfold kindsWorld
  repeat (first | exact Below.refl _ _ | apply below_alloc)
theorem kindsWorld_pat (w : World) (k : Int) (h : kndOk k = true) : ∃ g, patAt w.heap.size k = some ⟨g, 0, none⟩ ∧ w.heap.size < g ∧ (kindsWorld w).heap[g]? = some (.cells ((patOf k).map (Value.int .i64 ·)).toArray 3 (0, 0)) := by
  have : k = 1 ∨ k = 2 ∨ k = 3 ∨ k = 4 := by simp [kndOk] at h; omega
  rcases this with rfl | rfl | rfl | rfl
  · exact ⟨w.heap.size + 1, rfl, by omega, alloc_old _ (alloc_old _ (alloc_old _ (alloc_at _ _ (by simp))))⟩
  · exact ⟨w.heap.size + 2, rfl, by omega, alloc_old _ (alloc_old _ (alloc_at _ _ (by simp)))⟩
  · exact ⟨w.heap.size + 3, rfl, by omega, alloc_old _ (alloc_at _ _ (by simp))⟩
  · exact ⟨w.heap.size + 4, rfl, by omega, alloc_at _ _ (by simp)⟩
theorem reps_ints (w : World) (base : Nat) (okp : Nat → Prop) : ∀ l : List Int, Reps ((Kd.int .i64).M w base okp) (Kd.int .i64).sz l (l.map (Value.int .i64 ·))
  | [] => Reps.none _ _
  | x :: l => Reps.one (show Kd.M (Kd.int .i64) _ _ _ x [.int .i64 x] from rfl) (reps_ints w base okp l)
theorem ints_R {w : World} {base g : Nat} {e : TypeId} {l : List Int} (hb : base ≤ g) (h : w.heap[g]? = some (.cells (l.map (Value.int .i64 ·)).toArray e (0, 0))) (hl : l.length ≤ 9223372036854775807) :
    Kd.R (Kd.int .i64) e w base (fun _ => True) (.slice (some ⟨g, 0, none⟩) l.length l.length) l :=
  ⟨fun _ _ => trivial, l.map (Value.int .i64 ·), ⟨by rw [show (Kd.int .i64).sz = 1 from rfl]; simp, Or.inr ⟨g, l.length, _, rfl, hb, h, Nat.le_refl _, by simpa [maxLen] using hl, by rw [show (Kd.int .i64).sz = 1 from rfl]; simp, by rw [show (Kd.int .i64).sz = 1 from rfl, Nat.mul_one]; exact List.take_of_length_le (by simp)⟩⟩, reps_ints _ _ _ _⟩
theorem kindsWorld_R (w : World) (k : Int) : Kd.R (Kd.int .i64) 3 (kindsWorld w) w.heap.size (fun _ => True) (.slice (patAt w.heap.size k) (patOf k).length (patOf k).length) (patOf k) := by
  by_cases h : kndOk k = true
  · obtain ⟨g, e, hg, hc⟩ := kindsWorld_pat w k h
    rw [e]
    refine ints_R (Nat.le_of_lt hg) hc ?_
    unfold patOf
    repeat' split
    all_goals simp
  · have h1 : patAt w.heap.size k = none := by
      simp [kndOk] at h
      unfold patAt
      rw [if_neg (by omega), if_neg (by omega), if_neg (by omega), if_neg (by omega)]
    have h2 : patOf k = [] := by
      simp [kndOk] at h
      unfold patOf
      rw [if_neg (by omega), if_neg (by omega), if_neg (by omega), if_neg (by omega)]
    rw [h1, h2]
    exact Kd.R_nil _ _ _ _ _
/-! ### The range over the map -/
theorem kindsMap_mem (n : Nat) (e : MapEntry) (h : e ∈ (kindsMap n).toList) : ∃ (k : Int) (b m : Nat), 1 ≤ k ∧ k ≤ 4 ∧ e.key = .int .i64 k ∧ e.val = kindVal (letterOf k) b m ∧ e.born = (k - 1).toNat := by
  simp only [kindsMap, List.mem_cons, List.not_mem_nil, or_false] at h
  rcases h with rfl | rfl | rfl | rfl
  · exact ⟨1, _, _, by omega, by omega, rfl, rfl, rfl⟩
  · exact ⟨2, _, _, by omega, by omega, rfl, rfl, rfl⟩
  · exact ⟨3, _, _, by omega, by omega, rfl, rfl, rfl⟩
  · exact ⟨4, _, _, by omega, by omega, rfl, rfl, rfl⟩
theorem kindsMap_of (n : Nat) (k : Int) (h1 : 1 ≤ k) (h2 : k ≤ 4) : ∃ e ∈ (kindsMap n).toList, e.born = (k - 1).toNat := by
  have : k = 1 ∨ k = 2 ∨ k = 3 ∨ k = 4 := by omega
  rcases this with rfl | rfl | rfl | rfl <;> simp [kindsMap]
theorem kindsMap_old (n : Nat) : ∀ x ∈ (kindsMap n).toList, x.born < 4 := by
  intro x h
  obtain ⟨k, _, _, h1, h2, _, _, hb⟩ := kindsMap_mem n x h
  omega
theorem kindsMap_nodup (n : Nat) : ((kindsMap n).toList.map (·.born)).Nodup := by
  show [0, 1, 2, 3].Nodup
  decide
def numOf (c : Int) : Int := if c = 65 then 1 else if c = 66 then 2 else if c = 67 then 3 else if c = 71 then 4 else 0
theorem numOf_letter {k : Int} (h1 : 1 ≤ k) (h2 : k ≤ 4) : numOf (letterOf k) = k := by
  have : k = 1 ∨ k = 2 ∨ k = 3 ∨ k = 4 := by omega
  rcases this with rfl | rfl | rfl | rfl <;> rfl
theorem numOf_none {c : Int} (h : ∀ k, 1 ≤ k → k ≤ 4 → letterOf k ≠ c) : numOf c = 0 := by
  have a1 := h 1 (by omega) (by omega)
  have a2 := h 2 (by omega) (by omega)
  have a3 := h 3 (by omega) (by omega)
  have a4 := h 4 (by omega) (by omega)
  unfold numOf
  rw [if_neg (fun e => a1 e.symm), if_neg (fun e => a2 e.symm), if_neg (fun e => a3 e.symm), if_neg (fun e => a4 e.symm)]
end Go.Proofs.YtookjdhfpbmjkaaW.PrintWords
