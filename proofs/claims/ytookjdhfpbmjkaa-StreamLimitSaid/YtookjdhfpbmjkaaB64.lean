/- The table of base64's digits, as the program's own loop fills it: what base64.newValues and base64.values return. No conditions. -/
import Derived.Test.YtookjdhfpbmjkaaAid
import Derived.Test.YtookjdhfpbmjkaaProg
import Derived.Laws.Tables
import Derived.Laws.CopyOwn
import Derived.ChangeKeysEq
namespace Go.Proofs.YtookjdhfpbmjkaaW.PrintWords
open Go.RowKit Go.Proofs
set_option linter.unusedVariables false
set_option linter.unusedSimpArgs false

def b64Alpha : ByteArray := ⟨#[65, 66, 67, 68, 69, 70, 71, 72, 73, 74, 75, 76, 77, 78, 79, 80, 81, 82, 83, 84, 85, 86, 87, 88, 89, 90, 97, 98, 99, 100, 101, 102, 103, 104, 105, 106, 107, 108, 109, 110, 111, 112, 113, 114, 115, 116, 117, 118, 119, 120, 121, 122, 48, 49, 50, 51, 52, 53, 54, 55, 56, 57, 45, 95]⟩
def byteN (s : ByteArray) (k : Nat) : UInt8 := if h : k < s.size then s[k]'h else 0
theorem byteN_at (s : ByteArray) (k : Nat) : ∀ h : k < s.size, s[k]'h = byteN s k := fun h => by simp [byteN, h]
noncomputable def b64Tbl : Nat → Array Value
  | 0 => Try.zeroCells119
  | k + 1 => (b64Tbl k).setIfInBounds (byteN b64Alpha k).toNat (.int .u8 (k + 1))
theorem b64Tbl_size (k : Nat) : (b64Tbl k).size = 256 := by
  induction k with
  | zero => decide +kernel
  | succ k ih => simp [b64Tbl, ih]
theorem b64Tbl_one (k : Nat) : (b64Tbl k).all (·.oneCell') = true := by
  induction k with
  | zero => decide +kernel
  | succ k ih =>
    rw [Array.all_eq_true_iff_forall_mem] at ih ⊢
    intro v hv
    rw [b64Tbl] at hv
    rcases Array.mem_or_eq_of_mem_setIfInBounds hv with h | h
    · exact ih v h
    · rw [h]; rfl
theorem b64Tbl_cell (k : Nat) (c : UInt8) : ∃ v, (b64Tbl k)[c.toNat]? = some v := ⟨_, Array.getElem?_eq_getElem (by rw [b64Tbl_size]; exact c.toNat_lt)⟩
set_option maxHeartbeats 4000000 in
set_option maxRecDepth 100000 in
theorem base64_newValues.calls (w : World) : Calls Try.prog 85 #[] w fun e w' => e = .returned (.agg (b64Tbl 64)) ∧ Below w.heap.size w w' := by
  go_enter Try.func85, Try.ntmps85
  go_wp2
  go_loopw [3] (fun v3 w' => ∃ k : Nat, k ≤ 64 ∧ v3 = .int .i64 k ∧ w' = (w.alloc (Obj.cells Try.zeroCells119 119)).alloc (Obj.cells (b64Tbl k) 119)) (fun v3 _ => 64 - (intOf v3).toNat)
  case atStart => exact ⟨0, by omega, rfl, rfl⟩
  case round =>
    obtain ⟨k, hk, rfl, rfl⟩ := hrel
    by_cases hlt : k < 64
    · have hx : ∀ h, _ := byteN_at b64Alpha k
      obtain ⟨c, hc⟩ : ∃ c, byteN b64Alpha k = c := ⟨_, rfl⟩
      have hs : b64Tbl (k + 1) = (b64Tbl k).setIfInBounds c.toNat (.int .u8 (k + 1)) := by rw [← hc]; rfl
      rw [hc] at hx
      obtain ⟨v, hv⟩ := b64Tbl_cell k c
      have hc1 : (256 ≤ (c.toNat : Int)) = False := eq_false (by have := c.toNat_lt; omega)
      have hc2 : ((c.toNat : Int) < 256) = True := eq_true (by have := c.toNat_lt; omega)
      have hc3 : (c.toNat < 256) = True := eq_true c.toNat_lt
      have Hs := Aside0.mk hs
      clear hs hc
      unfold b64Alpha at hx
      have p : (0 ≤ (k : Int)) = True := eq_true (by omega)
      have q : ((k : Int) < 64) = True := eq_true (by omega)
      go_wp2
      go_roundw
      case rel => exact ⟨k + 1, by omega, by go_num, by rw [Hs.out]⟩
      case measure => simp [intOf]; omega
    · have hk' : k = 64 := by omega
      subst hk'
      have hz : (b64Tbl 64).size = 256 := b64Tbl_size 64
      obtain ⟨T, hT⟩ : ∃ T, T = b64Tbl 64 := ⟨_, rfl⟩
      rw [← hT] at hz ⊢
      have HT := Aside0.mk hT
      clear hT hk
      have hg : ((w.alloc (Obj.cells Try.zeroCells119 119)).alloc (Obj.cells T 119)).heap[w.heap.size + 1]? = some (.cells T 119 (0, 0)) := by
        have := (MapKept.heap_alloc (w.alloc (Obj.cells Try.zeroCells119 119)) (Obj.cells T 119)).1
        simpa using this
      have h1 : T.all (·.oneCell') = true := by rw [HT.out]; exact b64Tbl_one 64
      have hg0 : ((w.alloc (Obj.cells Try.zeroCells119 119)).alloc (Obj.cells T 119)).heap[w.heap.size]? = some (.cells Try.zeroCells119 119 (0, 0)) := by
        rw [(MapKept.heap_alloc (w.alloc (Obj.cells Try.zeroCells119 119)) (Obj.cells T 119)).2 _ (by simp)]
        exact (MapKept.heap_alloc w _).1
      go_wp2_with (first | (refine wpList_load_row rfl 119 (.tmp 1) rfl (w.heap.size + 1) rfl 119 T (0, 0) _ hg Try.underlying119 rfl (by rw [hz]; kernel_rfl) ?_) | (refine wpList_store_row rfl 119 (.tmp 0) (.tmp 13) rfl w.heap.size T rfl rfl 119 Try.zeroCells119 hg0 (by rw [hz]; kernel_rfl) (by rw [hz]; decide +kernel) h1 ?_))
      refine bodyPost_ret (v := .agg T) (results_cell_row rfl _ _ w.heap.size 119 T (0, 0) _ rfl (setRow_heap _ _ _ _ _ _ hg0) Try.underlying119 rfl (by rw [hz]; kernel_rfl)) rfl ⟨by rw [HT.out], below_setRow (((Below.refl _ _).alloc (Nat.le_refl _) _).alloc (by simp) _) (Nat.le_refl _) _⟩

def b64Num (c : Int) : Int := if 65 ≤ c ∧ c ≤ 90 then c - 64 else if 97 ≤ c ∧ c ≤ 122 then c - 70 else if 48 ≤ c ∧ c ≤ 57 then c + 5 else if c = 45 then 63 else if c = 95 then 64 else 0
theorem b64Tbl_is : b64Tbl 64 = ((List.range 256).map fun (c : Nat) => Value.int .u8 (b64Num (c : Int))).toArray := by kernel_rfl
theorem b64Tbl_at (c : Nat) (h : c < 256) : (b64Tbl 64)[c]? = some (.int .u8 (b64Num c)) := by
  rw [b64Tbl_is]
  simp [h]
theorem base64_values.calls (w : World) : Calls Try.prog 84 #[] w fun e w' => e = .returned (.agg (b64Tbl 64)) ∧ Below w.heap.size w w' := by
  have hz : (b64Tbl 64).size = 256 := b64Tbl_size 64
  have h1 := b64Tbl_one 64
  obtain ⟨T, hT⟩ : ∃ T, b64Tbl 64 = T := ⟨_, rfl⟩
  have hc := base64_newValues.calls
  rw [hT] at hz h1 ⊢
  simp only [hT] at hc
  clear hT
  have HC := Aside0.mk hc
  clear hc
  go_enter Try.func84, Try.ntmps84
  go_wp2_with fail
  refine (HC.out _).mono ?_
  rintro e w1 ⟨rfl, hb⟩
  have hg0 : w1.heap[w.heap.size]? = some (.cells Try.zeroCells119 119 (0, 0)) := by
    rw [hb.block _ (by simp)]
    exact (MapKept.heap_alloc w _).1
  go_wp2_with (refine wpList_store_row rfl 119 (.tmp 0) (.tmp 1) rfl w.heap.size T rfl rfl 119 Try.zeroCells119 hg0 (by rw [hz]; kernel_rfl) (by rw [hz]; decide +kernel) h1 ?_)
  refine bodyPost_ret (v := .agg T) (results_cell_row rfl _ _ w.heap.size 119 T (0, 0) _ rfl (setRow_heap _ _ _ _ _ _ hg0) Try.underlying119 rfl (by rw [hz]; kernel_rfl)) rfl ⟨rfl, below_setRow (((Below.refl _ _).alloc (Nat.le_refl _) _).trans (hb.mono (by simp))) (Nat.le_refl _) _⟩
theorem index_agg (w : World) (T : Array Value) (c : Int) (v : Value) (h0 : 0 ≤ c) (h1 : c < 256) (hv : T[c.toNat]? = some v) : (Instr.index 119 (.agg T) (.int .u8 c)).run Try.prog w = .ok v w := by
  obtain ⟨m, rfl⟩ := Int.eq_ofNat_of_zero_le h0
  have hm : m < 256 := by omega
  have hu := run_underlying (P := Try.prog) Try.underlying119
  obtain ⟨i0, hi, hzz⟩ := Option.map_eq_some_iff.1 (show (Try.prog.info? 5).map (fun i => i.size) = some 1 by kernel_rfl)
  have hp := run_part_plain (P := Try.prog) (w := w) (e := 5) (by kernel_rfl) (xs := T) (off := m) (v := v) (by simpa using hv)
  simp [Instr.index, hu, asIntOf, sizeOf, typeInfo, Result.andThen, hm, hi, hzz, hp]
theorem b64Num_bd (c : Int) : 0 ≤ b64Num c ∧ b64Num c ≤ 64 := by
  unfold b64Num; repeat' split
  all_goals omega
end Go.Proofs.YtookjdhfpbmjkaaW.PrintWords
