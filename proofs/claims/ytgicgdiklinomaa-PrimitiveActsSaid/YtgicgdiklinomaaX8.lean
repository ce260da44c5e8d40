-- Written by xprint.py, a program of this repo that leads the kit's print.py: Lean checks it.
import Derived.Test.YtgicgdiklinomaaX0
import Derived.Test.YtgicgdiklinomaaX4
import Derived.Test.YtgicgdiklinomaaX5
namespace Go.Proofs.Ytgicgdiklinomaa.X
open Go.RowKit Go.Proofs.YtgicgdiklinomaaW.PrintWords Go.Proofs.YtgicgdiklinomaaW.PrintLast Go.Proofs.YtgicgdiklinomaaW.PrintMore
attribute [local go_sem] max2_int min2_int max_two min_two max_three min_three max_four min_four   -- for this text's walks alone
set_option linter.unusedVariables false
set_option linter.unusedSimpArgs false

/-! ### keyeventkit_Spoil: function 13 -/
def keyeventkit_Spoil.f (a0 : ByteArray) (a1 a2 : Int) : Option ByteArray :=
  if a0.toList = [] then some a0 else (keyeventkit_Mod.f a1 (a0.size : Int)).bind fun m => if 0 ≤ m ∧ m < (a0.size : Int) then some (strOfNums ((numsOf a0).set m.toNat ((bt a0 m + a2) % 256))) else none
set_option maxHeartbeats 4000000 in
set_option maxRecDepth 100000 in
theorem keyeventkit_Spoil.calls (a0 : ByteArray) (a1 : Int) (a2 : Int) (r : ByteArray) (w : World) (h : keyeventkit_Spoil.f a0 a1 a2 = some r) :
    Calls Try.prog 13 #[.string a0, .int .i64 a1, .int .i64 a2] w fun e w' => e = .returned (.string r) ∧ Below w.heap.size w w' := by
  unfold keyeventkit_Spoil.f at h
  by_cases hs : a0.toList = []
  · rw [if_pos hs] at h
    simp only [Option.some.injEq] at h
    subst h
    have hs2 : a0.toList.isEmpty = true := by simp [hs]
    clear hs
    go_enter Try.func13, Try.ntmps13
    go_wp2_with fail
    go_ret
    exact ⟨rfl, Below.refl _ _⟩
  · rw [if_neg hs] at h
    have hs2 : a0.toList.isEmpty = false := by simpa using hs
    clear hs
    obtain ⟨m, hm, h⟩ := Option.bind_eq_some_iff.mp h
    split at h
    · rename_i hr
      obtain ⟨h0, h1⟩ := hr
      obtain ⟨j, rfl⟩ := Int.eq_ofNat_of_zero_le h0
      have hj : j < a0.size := by omega
      simp only [Option.some.injEq, Int.toNat_natCast] at h
      subst h
      have HM := Aside0.mk hm
      clear hm
      have hcv := Lib.run_convert_string_bytes (P := Try.prog) w 9 49 5 a0 Try.underlying9 Try.underlying49 Try.underlying5
      have hcell : (Lib.bytesWorld w 5 a0).cell? ⟨w.heap.size, j, none⟩ = some (.int .u8 (bt a0 j)) := by
        have h2 : j < a0.data.size := hj
        rw [Lib.bytesWorld_cell w 5 a0 j hj, ← numsOf_at]
        simp [numsOf, List.getD, Array.getElem?_eq_getElem h2]
      have hfr := bytesWorld_frozen w 5 a0 j hj
      have hsz : (Lib.bytesWorld w 5 a0).heap.size = w.heap.size + 1 := Lib.bytesWorld_size w 5 a0
      obtain ⟨c, hc⟩ : ∃ c, grownCap w a0.size 0 5 = c := ⟨_, rfl⟩
      rw [hc] at hcv
      clear hc
      have HB := Aside0.mk (below_bytesWorld w 5 a0)
      have HC := Aside0.mk (fun i (hi : i < a0.size) => Lib.bytesWorld_cell w 5 a0 i hi)
      obtain ⟨W, hW⟩ : ∃ W, W = Lib.bytesWorld w 5 a0 := ⟨_, rfl⟩
      rw [← hW] at hcv hcell hfr hsz HB HC
      clear hW
      go_enter Try.func13, Try.ntmps13
      go_wp2_with fail
      refine (keyeventkit_Mod.calls _ _ _ _ HM.out).mono ?_
      rintro e w' ⟨rfl, ⟨k, rfl⟩⟩
      have b0 : ((j : Int) < (a0.size : Int)) = True := eq_true h1
      have hck : (W.drewN k).cell? ⟨w.heap.size, j, none⟩ = some (.int .u8 (bt a0 j)) := hcell
      have hback := run_convert_bytes_arg (P := Try.prog) ((W.drewN k).setCell ⟨w.heap.size, j, none⟩ (.int .u8 ((bt a0 (j : Int) + a2) % 256))) 49 5 Try.underlying49 Try.underlying5 w.heap.size 0 a0.size c ((numsOf a0).set j ((bt a0 (j : Int) + a2) % 256)) (by simp [numsOf]) (fun i hi => by
        rw [Nat.zero_add]
        by_cases hij : i = j
        · subst hij
          rw [World.cell?_setCell_same' _ _ _ (by rw [hck]; rfl)]
          have h2 : i < a0.data.size := hi
          rw [List.getD_eq_getElem?_getD, List.getElem?_set_self (by simpa [numsOf] using h2)]
          rfl
        · rw [World.cell?_setCell_other _ _ _ _ (by simp [Ne.symm hij])]
          rw [show (W.drewN k).cell? ⟨w.heap.size, i, none⟩ = some (.int .u8 (a0.data.toList.getD i 0).toNat) from HC.out i hi]
          have h2 : i < a0.data.size := hi
          simp [numsOf, List.getD, Array.getElem?_eq_getElem h2, List.getElem?_set, Ne.symm hij]) 9 Try.underlying9
      clear hck
      go_wp2_with fail
      go_ret
      exact ⟨rfl, below_set (pw_below_drewN HB.out k) (Nat.le_refl _)⟩
    · cases h

/-! ### primitive_begins: function 38 -/
theorem hasPrefix_is (t c : ByteArray) : strings_HasPrefix.f t c = some (isPre t c) := by
  unfold strings_HasPrefix.f stringslite_HasPrefix.f
  by_cases h : (t.size : Int) ≥ (c.size : Int)
  · rw [if_pos h, if_pos (by omega), if_pos (by omega)]
    simp only [Option.bind_some, Option.some.injEq]
    have e1 : (t.extract 0 ((c.size : Int)).toNat).toList = t.data.toList.take c.size := by
      rw [ByteArray.toList_eq, Lib.extract_data]
      simp
    have e2 : c.toList = c.data.toList := ByteArray.toList_eq c
    rw [e1, e2]
    unfold isPre
    rw [Bool.eq_iff_iff, beq_iff_eq, List.isPrefixOf_iff_prefix, List.prefix_iff_eq_take]
    exact ⟨fun h => h.symm, fun h => h.symm⟩
  · rw [if_neg h]
    simp only [Option.bind_some, Option.some.injEq]
    unfold isPre
    symm
    rw [Bool.eq_false_iff, Ne, List.isPrefixOf_iff_prefix]
    intro hp
    have := hp.length_le
    have e1 : c.data.toList.length = c.size := by simp
    have e2 : t.data.toList.length = t.size := by simp
    omega
def primitive_begins.f (a0 : ByteArray) : Option (Int × ByteArray × Int × Bool) := some (codeOf a0, formCode (codeOf a0), formRaw (codeOf a0), decide (codeOf a0 ≠ 0))
set_option maxHeartbeats 4000000 in
set_option maxRecDepth 100000 in
theorem primitive_begins.callsA (t : ByteArray) (w : World) (R : Ending → World → Prop)
    (pre : Int → Bool) (hpre : ∀ k, strings_HasPrefix.f t (formCode k) = some (pre k))
    (hyes : ∀ k, 1 ≤ k → k ≤ 8 → pre k = true → ∀ w', Below w.heap.size w w' → R (.returned (.tuple #[.int .i64 k, .agg #[.string (formCode k), .int .i64 (formRaw k)], .bool true])) w')
    (hno : (∀ k, 1 ≤ k → k ≤ 8 → pre k = false) → ∀ w', Below w.heap.size w w' → R (.returned (.tuple #[.int .i64 0, .agg #[.string ⟨#[]⟩, .int .i64 0], .bool false])) w') :
    Calls Try.prog 38 #[.string t] w R := by
  have HP := Aside0.mk hpre
  have HY := Aside0.mk hyes
  have HN := Aside0.mk hno
  clear hpre hyes hno
  have hrg : ∀ (W : World), (Instr.range 53 (.map (some W.heap.size))).run Try.prog (W.alloc (.map formsMap 8)) = .ok (.pointer (some ⟨(W.alloc (.map formsMap 8)).heap.size, 0, none⟩)) ((W.alloc (.map formsMap 8)).alloc (.mapIter (some W.heap.size) 8 #[] 8)) := fun W =>
    run_range_map _ 53 3 51 _ formsMap 8 Try.underlying53 (alloc_at _ _ rfl)
  have hrg1 := hrg (w.alloc (.cells #[.string ⟨#[]⟩, .int .i64 0] 51))
  simp only [World.size_alloc] at hrg1
  clear hrg
  go_enter Try.func38, Try.ntmps38
  go_wp2_with (first | (go_at_call 33; refine (forms_any _).mono ?_; rintro e w' ⟨rfl, rfl⟩))
  clear hrg1
  obtain ⟨W0, hW0⟩ : ∃ W0, W0 = ((w.alloc (Obj.cells #[Value.string ⟨#[]⟩, Value.int IntKind.i64 0] 51)).alloc (Obj.map formsMap 8)).alloc (Obj.mapIter (some (w.heap.size + 1)) 8 #[] 8) := ⟨_, rfl⟩
  have h00 : W0.heap[w.heap.size]? = some (.cells #[.string ⟨#[]⟩, .int .i64 0] 51 (0, 0)) := by rw [hW0]; exact alloc_old _ (alloc_old _ (alloc_at _ _ rfl))
  have h01 : W0.heap[w.heap.size + 1]? = some (.map formsMap 8) := by rw [hW0]; exact alloc_old _ (alloc_at _ _ (by simp))
  have h02 : W0.heap[w.heap.size + 1 + 1]? = some (.mapIter (some (w.heap.size + 1)) 8 #[] 8) := by rw [hW0]; exact alloc_at _ _ (by simp)
  have h0B : Below w.heap.size w W0 := by rw [hW0]; repeat (first | exact Below.refl _ _ | apply below_alloc)
  have H00 := Aside0.mk h00
  have H01 := Aside0.mk h01
  have H02 := Aside0.mk h02
  have H0B := Aside0.mk h0B
  rw [← hW0]
  clear h00 h01 h02 h0B hW0
  go_loopw [5] (fun s5 wr => ∃ seen : Array Nat, Aside0 (wr.heap[w.heap.size]? = some (.cells #[.string ⟨#[]⟩, .int .i64 0] 51 (0, 0))) ∧ Aside0 (wr.heap[w.heap.size + 1]? = some (.map formsMap 8)) ∧
      Aside0 (wr.heap[w.heap.size + 1 + 1]? = some (.mapIter (some (w.heap.size + 1)) 8 seen 8)) ∧ Aside0 (∀ k, 1 ≤ k → k ≤ 8 → (k - 1).toNat ∈ seen → pre k = false) ∧ Aside0 (Below w.heap.size w wr)) (fun _ wr => wr.rangeLeft (w.heap.size + 1) (w.heap.size + 1 + 1))
  case atStart => exact ⟨#[], H00, H01, H02, ⟨fun k _ _ h => by simp at h⟩, H0B⟩
  case round =>
    clear H00 H01 H02 H0B
    obtain ⟨seen, G0, G1, G2, GS, GB⟩ := hrel
    rcases run_next_at (P := Try.prog) wr 0 (w.heap.size + 1 + 1) (w.heap.size + 1) 8 8 seen formsMap 8 G2.out G1.out formsMap_old (Nat.le_refl _) with ⟨hl, hnx⟩ | ⟨e, he, w1, hal, hnx⟩
    · have hall : ∀ k, 1 ≤ k → k ≤ 8 → pre k = false := by
        intro k h1 h2
        refine GS.out k h1 h2 ?_
        have hm := formsMap_of k h1 h2
        rcases Classical.em ((k - 1).toNat ∈ seen) with h | h
        · exact h
        · exfalso
          have : (⟨.int .i64 k, formVal k, (k - 1).toNat⟩ : MapEntry) ∈ (leftOf formsMap seen).toList := by
            simp only [leftOf, Array.toList_filter, List.mem_filter]
            exact ⟨hm, by simpa using h⟩
          have hl2 : (leftOf formsMap seen).toList.length = 0 := by simpa using hl
          rw [List.length_eq_zero_iff.1 hl2] at this
          simp at this
      have HALL := Aside0.mk hall
      clear hall hl
      have c0 := cell_of wr G0.out (i := 0) rfl
      have c1 := cell_of wr G0.out (i := 1) rfl
      have f0 := frozen_of wr G0.out (i := 0)
      have f1 := frozen_of wr G0.out (i := 1)
      go_wp2_with fail
      exact bodyPost_ret (v := .tuple #[.int .i64 0, .agg #[.string ⟨#[]⟩, .int .i64 0], .bool false]) (by simp [results, Try.results38, go_sem, c0, c1]) rfl (HN.out (fun k h1 h2 => HALL.out k h1 h2) _ (below_set (below_set GB.out (Nat.le_refl _)) (Nat.le_refl _)))
    · obtain ⟨k, hk1, hk2, hk, hv, hbn⟩ := formsMap_mem e (by simp only [leftOf, Array.toList_filter, List.mem_filter] at he; exact he.1)
      have hns : (k - 1).toNat ∉ seen := by
        simp only [leftOf, Array.toList_filter, List.mem_filter, hbn] at he
        simpa using he.2
      rw [hk, hv] at hnx
      have hw1B : Below wr.heap.size wr w1 := by rcases hal with rfl | rfl <;> first | exact Below.refl _ _ | exact (Below.refl _ _).drew
      have hw1h : w1.heap = wr.heap := by rcases hal with rfl | rfl <;> rfl
      have hlt : w.heap.size + 1 + 1 < w1.heap.size := by rw [hw1h]; exact (Array.getElem?_eq_some_iff.1 G2.out).1
      obtain ⟨W1, hW1⟩ : ∃ W1, W1 = Go.ChangeMaps.setBlock w1 (w.heap.size + 1 + 1) (.mapIter (some (w.heap.size + 1)) 8 (seen.push e.born) 8) := ⟨_, rfl⟩
      rw [← hW1] at hnx
      have k2 : W1.heap[w.heap.size + 1 + 1]? = some (.mapIter (some (w.heap.size + 1)) 8 (seen.push e.born) 8) := by rw [hW1]; simp [Go.ChangeMaps.setBlock, hlt]
      have k1 : W1.heap[w.heap.size + 1]? = some (.map formsMap 8) := by rw [hW1, ← G1.out, ← hw1h]; simp only [Go.ChangeMaps.setBlock]; rw [Array.getElem?_setIfInBounds, if_neg (by omega)]
      have k0 : W1.heap[w.heap.size]? = some (.cells #[.string ⟨#[]⟩, .int .i64 0] 51 (0, 0)) := by rw [hW1, ← G0.out, ← hw1h]; simp only [Go.ChangeMaps.setBlock]; rw [Array.getElem?_setIfInBounds, if_neg (by omega)]
      have kB : Below w.heap.size w W1 := by
        rw [hW1]
        have h1 := GB.out.trans (hw1B.mono GB.out.size)
        exact ⟨h1.os, h1.tape, h1.output, by simpa [Go.ChangeMaps.setBlock] using h1.size, fun i hi => by rw [← h1.block i hi]; simp only [Go.ChangeMaps.setBlock]; rw [Array.getElem?_setIfInBounds]; rw [if_neg (by omega)]⟩
      have hen := run_entry_at (P := Try.prog) W1 (w.heap.size + 1 + 1) (w.heap.size + 1) 8 seen formsMap 8 e k2 k1 (by simp only [leftOf, Array.toList_filter, List.mem_filter] at he; exact he.1) formsMap_nodup
      rw [hk, hv] at hen
      unfold formVal at hnx hen
      rw [hbn] at k2
      have HLT := Aside0.mk (leftOf_push (es := formsMap) (seen := seen) (e := e) (by simp only [leftOf, Array.toList_filter, List.mem_filter] at he; exact he.1) (by rw [hbn]; exact hns))
      rw [hbn] at HLT
      have K0 := Aside0.mk k0
      have K1 := Aside0.mk k1
      have K2 := Aside0.mk k2
      have KB := Aside0.mk kB
      have KN := Aside0.mk hns
      have G2' := Aside0.mk G2.out
      have hsz1 : w.heap.size + 1 + 1 < W1.heap.size := (Array.getElem?_eq_some_iff.1 k2).1
      clear hW1 hw1B hw1h hal he hk hv hbn k0 k1 k2 kB hns hlt
      have hp := HP.out k
      obtain ⟨c, hc⟩ : ∃ c, formCode k = c := ⟨_, rfl⟩
      obtain ⟨n, hn⟩ : ∃ n, formRaw k = n := ⟨_, rfl⟩
      rw [hc] at hp hnx hen
      rw [hn] at hnx hen
      have HC := Aside0.mk hc
      have HNN := Aside0.mk hn
      have HPP := Aside0.mk hp
      clear hc hn hp
      cases hb : pre k with
      | false =>
        have HBB := Aside0.mk hb
        rw [hb] at HPP
        clear hb
        go_wp2_with (first | (go_at_call 46; refine (strings_HasPrefix.calls t c false _ HPP.out).mono ?_; rintro e w' ⟨rfl, ⟨m, rfl⟩⟩))
        go_roundw
        case rel => exact ⟨seen.push (k - 1).toNat, ⟨alloc_old (w := W1) _ K0.out⟩, ⟨alloc_old (w := W1) _ K1.out⟩, ⟨alloc_old (w := W1) _ K2.out⟩, ⟨fun k2 h1 h2 h3 => by
          rcases Array.mem_push.1 h3 with h | h
          · exact GS.out k2 h1 h2 h
          · have : k2 = k := by omega
            rw [this]; exact HBB.out⟩, ⟨pw_below_drewN (below_alloc KB.out _) m⟩⟩
        case measure =>
          rw [rangeLeft_of G1.out G2'.out, rangeLeft_of (w := (W1.alloc _).drewN m) (alloc_old (w := W1) _ K1.out) (alloc_old (w := W1) _ K2.out)]
          exact HLT.out
      | true =>
        rw [hb] at HPP
        have HBB := Aside0.mk hb
        clear hb
        go_wp2_with (first | (go_at_call 46; refine (strings_HasPrefix.calls t c true _ HPP.out).mono ?_; rintro e w' ⟨rfl, ⟨m, rfl⟩⟩))
        have c0 := cell_of W1 K0.out (i := 0) rfl
        have c1 := cell_of W1 K0.out (i := 1) rfl
        have f0 := frozen_of W1 K0.out (i := 0)
        have f1 := frozen_of W1 K0.out (i := 1)
        have hwl : w.heap.size < W1.heap.size := by omega
        go_region
        all_goals
          go_wp2_with fail
          refine bodyPost_ret (v := .tuple #[.int .i64 k, .agg #[.string c, .int .i64 n], .bool true]) (by simp [results, Try.results38, go_sem, c0, c1, hwl]) rfl ?_
          rw [← HC.out, ← HNN.out]
          exact HY.out k hk1 hk2 HBB.out _ (below_set (below_set (pw_below_drewN (below_alloc KB.out _) (m + 1)) (Nat.le_refl _)) (Nat.le_refl _))
theorem primitive_begins.calls (a0 : ByteArray) (r1 : Int) (r2 : ByteArray) (r3 : Int) (r4 : Bool) (w : World) (h : primitive_begins.f a0 = some (r1, r2, r3, r4)) :
    Calls Try.prog 38 #[.string a0] w fun e w' => e = .returned (.tuple #[.int .i64 r1, .agg #[.string r2, .int .i64 r3], .bool r4]) ∧ Below w.heap.size w w' := by
  simp only [primitive_begins.f, Option.some.injEq, Prod.mk.injEq] at h
  obtain ⟨rfl, rfl, rfl, rfl⟩ := h
  refine primitive_begins.callsA a0 w _ (fun k => isPre a0 (formCode k)) (fun k => hasPrefix_is a0 (formCode k)) (fun k h1 h2 h3 w' hb => ⟨?_, hb⟩) (fun hn w' hb => ⟨?_, hb⟩)
  · have := codeOf_pre a0 k h1 h2 h3
    rw [this, decide_eq_true (show k ≠ 0 by omega)]
  · rw [codeOf_none a0 hn]
    rfl

end Go.Proofs.Ytgicgdiklinomaa.X
