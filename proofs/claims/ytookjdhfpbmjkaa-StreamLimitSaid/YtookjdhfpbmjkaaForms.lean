/- The table of codes, as the program's map of eight entries holds it: what primitive.forms returns, and what a look into it finds. No conditions. -/
import Derived.Test.YtookjdhfpbmjkaaAid
import Derived.Test.YtookjdhfpbmjkaaProg
namespace Go.Proofs.YtookjdhfpbmjkaaW.PrintWords
set_option linter.unusedVariables false
set_option linter.unusedSimpArgs false
open Go.RowKit Go.Proofs

/-- The table of codes, as the map holds it. -/
def formsMap : Array MapEntry := #[⟨.int .i64 1, .agg #[.string ⟨#[69]⟩, .int .i64 32], 0⟩, ⟨.int .i64 2, .agg #[.string ⟨#[68]⟩, .int .i64 32], 1⟩, ⟨.int .i64 3, .agg #[.string ⟨#[66]⟩, .int .i64 32], 2⟩, ⟨.int .i64 4, .agg #[.string ⟨#[65]⟩, .int .i64 32], 3⟩,
  ⟨.int .i64 5, .agg #[.string ⟨#[48, 65]⟩, .int .i64 16], 4⟩, ⟨.int .i64 6, .agg #[.string ⟨#[77]⟩, .int .i64 2], 5⟩, ⟨.int .i64 7, .agg #[.string ⟨#[83]⟩, .int .i64 626], 6⟩, ⟨.int .i64 8, .agg #[.string ⟨#[49, 65, 65, 76]⟩, .int .i64 6], 7⟩]

set_option maxHeartbeats 2000000 in
theorem forms_any (w : World) : Calls Try.prog 51 #[] w fun e w' => e = .returned (.map (some w.heap.size)) ∧ w' = w.alloc (.map formsMap 8) := by
  have hmm := @run_makeMap Try.prog
  have hi : ∀ (es : Array MapEntry) (c : Nat) (k : Int) (v : Value), Instr.findNow (.int .i64) (.int .i64 k) es.toList 0 = some none → (Instr.mapUpdate 85 (.map (some w.heap.size)) (.int .i64 k) v).run Try.prog (w.alloc (.map es c)) = .ok () (w.alloc (.map (es.push ⟨.int .i64 k, v, c⟩) (c + 1))) :=
    fun es c k v h => run_insert_new Try.underlying85 Try.underlying3 w es c k v h
  have h1 := fun v => hi #[] 0 1 v rfl
  have h2 := fun v v1 => hi #[⟨.int .i64 1, v1, 0⟩] 1 2 v rfl
  have h3 := fun v v1 v2 => hi #[⟨.int .i64 1, v1, 0⟩, ⟨.int .i64 2, v2, 1⟩] 2 3 v rfl
  have h4 := fun v v1 v2 v3 => hi #[⟨.int .i64 1, v1, 0⟩, ⟨.int .i64 2, v2, 1⟩, ⟨.int .i64 3, v3, 2⟩] 3 4 v rfl
  have h5 := fun v v1 v2 v3 v4 => hi #[⟨.int .i64 1, v1, 0⟩, ⟨.int .i64 2, v2, 1⟩, ⟨.int .i64 3, v3, 2⟩, ⟨.int .i64 4, v4, 3⟩] 4 5 v rfl
  have h6 := fun v v1 v2 v3 v4 v5 => hi #[⟨.int .i64 1, v1, 0⟩, ⟨.int .i64 2, v2, 1⟩, ⟨.int .i64 3, v3, 2⟩, ⟨.int .i64 4, v4, 3⟩, ⟨.int .i64 5, v5, 4⟩] 5 6 v rfl
  have h7 := fun v v1 v2 v3 v4 v5 v6 => hi #[⟨.int .i64 1, v1, 0⟩, ⟨.int .i64 2, v2, 1⟩, ⟨.int .i64 3, v3, 2⟩, ⟨.int .i64 4, v4, 3⟩, ⟨.int .i64 5, v5, 4⟩, ⟨.int .i64 6, v6, 5⟩] 6 7 v rfl
  have h8 := fun v v1 v2 v3 v4 v5 v6 v7 => hi #[⟨.int .i64 1, v1, 0⟩, ⟨.int .i64 2, v2, 1⟩, ⟨.int .i64 3, v3, 2⟩, ⟨.int .i64 4, v4, 3⟩, ⟨.int .i64 5, v5, 4⟩, ⟨.int .i64 6, v6, 5⟩, ⟨.int .i64 7, v7, 6⟩] 7 8 v rfl
  clear hi
  go_enter Try.func51, Try.ntmps51
  go_wp2
  go_ret
  exact ⟨rfl, rfl⟩

def formCode (k : Int) : ByteArray := if k = 1 then ⟨#[69]⟩ else if k = 2 then ⟨#[68]⟩ else if k = 3 then ⟨#[66]⟩ else if k = 4 then ⟨#[65]⟩ else if k = 5 then ⟨#[48, 65]⟩ else if k = 6 then ⟨#[77]⟩ else if k = 7 then ⟨#[83]⟩ else if k = 8 then ⟨#[49, 65, 65, 76]⟩ else ⟨#[]⟩
def formRaw (k : Int) : Int := if k = 1 then 32 else if k = 2 then 32 else if k = 3 then 32 else if k = 4 then 32 else if k = 5 then 16 else if k = 6 then 2 else if k = 7 then 626 else if k = 8 then 6 else 0
def formOk (k : Int) : Bool := decide (1 ≤ k ∧ k ≤ 8)
def formVal (k : Int) : Value := .agg #[.string (formCode k), .int .i64 (formRaw k)]

theorem forms_find (k : Int) : ∃ r, Instr.findNow (.int .i64) (.int .i64 k) formsMap.toList 0 = some r ∧ (r.map (·.2)).getD (.agg #[.string ⟨#[]⟩, .int .i64 0]) = formVal k ∧ r.isSome = formOk k := by
  by_cases h1 : k = 1
  · subst h1; exact ⟨_, rfl, rfl, rfl⟩
  by_cases h2 : k = 2
  · subst h2; exact ⟨_, rfl, rfl, rfl⟩
  by_cases h3 : k = 3
  · subst h3; exact ⟨_, rfl, rfl, rfl⟩
  by_cases h4 : k = 4
  · subst h4; exact ⟨_, rfl, rfl, rfl⟩
  by_cases h5 : k = 5
  · subst h5; exact ⟨_, rfl, rfl, rfl⟩
  by_cases h6 : k = 6
  · subst h6; exact ⟨_, rfl, rfl, rfl⟩
  by_cases h7 : k = 7
  · subst h7; exact ⟨_, rfl, rfl, rfl⟩
  by_cases h8 : k = 8
  · subst h8; exact ⟨_, rfl, rfl, rfl⟩
  have b : ∀ n : Int, k ≠ n → (k == n) = false := fun n h => by simpa using h
  refine ⟨none, ?_, ?_, ?_⟩
  · simp [formsMap, Instr.findNow, Instr.sameNow, b 1 h1, b 2 h2, b 3 h3, b 4 h4, b 5 h5, b 6 h6, b 7 h7, b 8 h8]
  · simp [formVal, formCode, formRaw, h1, h2, h3, h4, h5, h6, h7, h8]
  · simp [formOk]; omega

theorem zeroForm (w : World) : (zeroValue 83).run Try.prog w = .ok (.agg #[.string ⟨#[]⟩, .int .i64 0]) w := by kernel_rfl

theorem forms_lookAt {w : World} {b : Nat} (hb : w.heap[b]? = some (.map formsMap 8)) (k : Int) : (Instr.lookup 85 (.map (some b)) (.int .i64 k) true).run Try.prog w = .ok (.tuple #[formVal k, .bool (formOk k)]) w := by
  obtain ⟨r, h1, h2, h3⟩ := forms_find k
  rw [run_lookup_at Try.underlying85 Try.underlying3 hb k true h1 (zeroForm _), h2, h3]
  rfl
theorem formsMap_mem (e : MapEntry) (h : e ∈ formsMap.toList) : ∃ k : Int, 1 ≤ k ∧ k ≤ 8 ∧ e.key = .int .i64 k ∧ e.val = formVal k ∧ e.born = (k - 1).toNat := by
  simp only [formsMap, List.mem_cons, List.not_mem_nil, or_false] at h
  rcases h with rfl | rfl | rfl | rfl | rfl | rfl | rfl | rfl
  · exact ⟨1, by omega, by omega, rfl, rfl, rfl⟩
  · exact ⟨2, by omega, by omega, rfl, rfl, rfl⟩
  · exact ⟨3, by omega, by omega, rfl, rfl, rfl⟩
  · exact ⟨4, by omega, by omega, rfl, rfl, rfl⟩
  · exact ⟨5, by omega, by omega, rfl, rfl, rfl⟩
  · exact ⟨6, by omega, by omega, rfl, rfl, rfl⟩
  · exact ⟨7, by omega, by omega, rfl, rfl, rfl⟩
  · exact ⟨8, by omega, by omega, rfl, rfl, rfl⟩
theorem formsMap_of (k : Int) (h1 : 1 ≤ k) (h2 : k ≤ 8) : (⟨.int .i64 k, formVal k, (k - 1).toNat⟩ : MapEntry) ∈ formsMap.toList := by
  have : k = 1 ∨ k = 2 ∨ k = 3 ∨ k = 4 ∨ k = 5 ∨ k = 6 ∨ k = 7 ∨ k = 8 := by omega
  rcases this with rfl | rfl | rfl | rfl | rfl | rfl | rfl | rfl <;> simp [formsMap, formVal, formCode, formRaw]
theorem formsMap_old : ∀ x ∈ formsMap.toList, x.born < 8 := by
  intro x h
  obtain ⟨k, h1, h2, _, _, hb⟩ := formsMap_mem x h
  omega
theorem formsMap_nodup : (formsMap.toList.map (·.born)).Nodup := by decide
def isPre (t c : ByteArray) : Bool := c.data.toList.isPrefixOf t.data.toList
def codeOf (t : ByteArray) : Int := if isPre t (formCode 1) = true then 1 else if isPre t (formCode 2) = true then 2 else if isPre t (formCode 3) = true then 3 else if isPre t (formCode 4) = true then 4 else if isPre t (formCode 5) = true then 5 else if isPre t (formCode 6) = true then 6 else if isPre t (formCode 7) = true then 7 else if isPre t (formCode 8) = true then 8 else 0
theorem codeOf_pre (t : ByteArray) (k : Int) (h1 : 1 ≤ k) (h2 : k ≤ 8) (h : isPre t (formCode k) = true) : codeOf t = k := by
  have hk : k = 1 ∨ k = 2 ∨ k = 3 ∨ k = 4 ∨ k = 5 ∨ k = 6 ∨ k = 7 ∨ k = 8 := by omega
  unfold codeOf
  unfold isPre at h ⊢
  generalize t.data.toList = l at h ⊢
  cases l with
  | nil => rcases hk with rfl | rfl | rfl | rfl | rfl | rfl | rfl | rfl <;> simp [formCode, List.isPrefixOf] at h
  | cons x l => rcases hk with rfl | rfl | rfl | rfl | rfl | rfl | rfl | rfl <;> simp only [formCode, List.isPrefixOf] at h ⊢ <;> simp at h ⊢ <;> first | (obtain ⟨rfl, h⟩ := h; simp [h]) | (subst h; simp) | (rw [← h]; simp)
theorem codeOf_none (t : ByteArray) (h : ∀ k, 1 ≤ k → k ≤ 8 → isPre t (formCode k) = false) : codeOf t = 0 := by
  unfold codeOf
  simp [h 1, h 2, h 3, h 4, h 5, h 6, h 7, h 8]
end Go.Proofs.YtookjdhfpbmjkaaW.PrintWords
