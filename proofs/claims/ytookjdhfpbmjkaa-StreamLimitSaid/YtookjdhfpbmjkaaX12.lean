-- Written by xprint.py, a program of this repo that leads the kit's print.py: Lean checks it.
import Derived.Test.YtookjdhfpbmjkaaX0
import Derived.Test.YtookjdhfpbmjkaaX4
import Derived.Test.YtookjdhfpbmjkaaX5
namespace Go.Proofs.Ytookjdhfpbmjkaa.X
open Go.RowKit Go.Proofs.YtookjdhfpbmjkaaW.PrintWords Go.Proofs.YtookjdhfpbmjkaaW.PrintLast Go.Proofs.YtookjdhfpbmjkaaW.PrintMore
attribute [local go_sem] max2_int min2_int max_two min_two max_three min_three max_four min_four   -- for this text's walks alone
set_option linter.unusedVariables false
set_option linter.unusedSimpArgs false

/-! ### primitive_begins: function 78 -/
theorem hasPrefix_is (t c : ByteArray) : strings_HasPrefix.f t c = some (isPre t c) := by
  unfold strings_HasPrefix.f stringslite_HasPrefix.f
  by_cases h : (t.size : Int) ≥ (c.size : Int)
  · rw [if_pos h, if_pos (by omega), if_pos (by omega)]
    simp only [Option.bind_some, Option.some.injEq]
    have e1 : (t.extract 0 ((c.size : Int)).toNat).toList = t.data.toList.take c.size := by
      rw [ByteArray.toList_eq, Lib.extract_data]
      simp
    have e2 : c.toList = c.data.toList := ByteArray.toList_eq c
    rw [e1, e2]
    unfold isPre
    rw [Bool.eq_iff_iff, beq_iff_eq, List.isPrefixOf_iff_prefix, List.prefix_iff_eq_take]
    exact ⟨fun h => h.symm, fun h => h.symm⟩
  · rw [if_neg h]
    simp only [Option.bind_some, Option.some.injEq]
    unfold isPre
    symm
    rw [Bool.eq_false_iff, Ne, List.isPrefixOf_iff_prefix]
    intro hp
    have := hp.length_le
    have e1 : c.data.toList.length = c.size := by simp
    have e2 : t.data.toList.length = t.size := by simp
    omega
def primitive_begins.f (a0 : ByteArray) : Option (Int × ByteArray × Int × Bool) := some (codeOf a0, formCode (codeOf a0), formRaw (codeOf a0), decide (codeOf a0 ≠ 0))
set_option maxHeartbeats 4000000 in
set_option maxRecDepth 100000 in
theorem primitive_begins.callsA (t : ByteArray) (w : World) (R : Ending → World → Prop)
    (pre : Int → Bool) (hpre : ∀ k, strings_HasPrefix.f t (formCode k) = some (pre k))
    (hyes : ∀ k, 1 ≤ k → k ≤ 8 → pre k = true → ∀ w', Below w.heap.size w w' → R (.returned (.tuple #[.int .i64 k, .agg #[.string (formCode k), .int .i64 (formRaw k)], .bool true])) w')
    (hno : (∀ k, 1 ≤ k → k ≤ 8 → pre k = false) → ∀ w', Below w.heap.size w w' → R (.returned (.tuple #[.int .i64 0, .agg #[.string ⟨#[]⟩, .int .i64 0], .bool false])) w') :
    Calls Try.prog 78 #[.string t] w R := by
  have HP := Aside0.mk hpre
  have HY := Aside0.mk hyes
  have HN := Aside0.mk hno
  clear hpre hyes hno
  have hrg : ∀ (W : World), (Instr.range 85 (.map (some W.heap.size))).run Try.prog (W.alloc (.map formsMap 8)) = .ok (.pointer (some ⟨(W.alloc (.map formsMap 8)).heap.size, 0, none⟩)) ((W.alloc (.map formsMap 8)).alloc (.mapIter (some W.heap.size) 8 #[] 8)) := fun W =>
    run_range_map _ 85 3 83 _ formsMap 8 Try.underlying85 (alloc_at _ _ rfl)
  have hrg1 := hrg (w.alloc (.cells #[.string ⟨#[]⟩, .int .i64 0] 83))
  simp only [World.size_alloc] at hrg1
  clear hrg
  go_enter Try.func78, Try.ntmps78
  go_wp2_with (first | (go_at_call 51; refine (forms_any _).mono ?_; rintro e w' ⟨rfl, rfl⟩))
  clear hrg1
  obtain ⟨W0, hW0⟩ : ∃ W0, W0 = ((w.alloc (Obj.cells #[Value.string ⟨#[]⟩, Value.int IntKind.i64 0] 83)).alloc (Obj.map formsMap 8)).alloc (Obj.mapIter (some (w.heap.size + 1)) 8 #[] 8) := ⟨_, rfl⟩
  have h00 : W0.heap[w.heap.size]? = some (.cells #[.string ⟨#[]⟩, .int .i64 0] 83 (0, 0)) := by rw [hW0]; exact alloc_old _ (alloc_old _ (alloc_at _ _ rfl))
  have h01 : W0.heap[w.heap.size + 1]? = some (.map formsMap 8) := by rw [hW0]; exact alloc_old _ (alloc_at _ _ (by simp))
  have h02 : W0.heap[w.heap.size + 1 + 1]? = some (.mapIter (some (w.heap.size + 1)) 8 #[] 8) := by rw [hW0]; exact alloc_at _ _ (by simp)
  have h0B : Below w.heap.size w W0 := by rw [hW0]; repeat (first | exact Below.refl _ _ | apply below_alloc)
  have H00 := Aside0.mk h00
  have H01 := Aside0.mk h01
  have H02 := Aside0.mk h02
  have H0B := Aside0.mk h0B
  rw [← hW0]
  clear h00 h01 h02 h0B hW0
  go_loopw [5] (fun s5 wr => ∃ seen : Array Nat, Aside0 (wr.heap[w.heap.size]? = some (.cells #[.string ⟨#[]⟩, .int .i64 0] 83 (0, 0))) ∧ Aside0 (wr.heap[w.heap.size + 1]? = some (.map formsMap 8)) ∧
      Aside0 (wr.heap[w.heap.size + 1 + 1]? = some (.mapIter (some (w.heap.size + 1)) 8 seen 8)) ∧ Aside0 (∀ k, 1 ≤ k → k ≤ 8 → (k - 1).toNat ∈ seen → pre k = false) ∧ Aside0 (Below w.heap.size w wr)) (fun _ wr => wr.rangeLeft (w.heap.size + 1) (w.heap.size + 1 + 1))
  case atStart => exact ⟨#[], H00, H01, H02, ⟨fun k _ _ h => by simp at h⟩, H0B⟩
  case round =>
    clear H00 H01 H02 H0B
    obtain ⟨seen, G0, G1, G2, GS, GB⟩ := hrel
    rcases run_next_at (P := Try.prog) wr 0 (w.heap.size + 1 + 1) (w.heap.size + 1) 8 8 seen formsMap 8 G2.out G1.out formsMap_old (Nat.le_refl _) with ⟨hl, hnx⟩ | ⟨e, he, w1, hal, hnx⟩
    · have hall : ∀ k, 1 ≤ k → k ≤ 8 → pre k = false := by
        intro k h1 h2
        refine GS.out k h1 h2 ?_
        have hm := formsMap_of k h1 h2
        rcases Classical.em ((k - 1).toNat ∈ seen) with h | h
        · exact h
        · exfalso
          have : (⟨.int .i64 k, formVal k, (k - 1).toNat⟩ : MapEntry) ∈ (leftOf formsMap seen).toList := by
            simp only [leftOf, Array.toList_filter, List.mem_filter]
            exact ⟨hm, by simpa using h⟩
          have hl2 : (leftOf formsMap seen).toList.length = 0 := by simpa using hl
          rw [List.length_eq_zero_iff.1 hl2] at this
          simp at this
      have HALL := Aside0.mk hall
      clear hall hl
      have c0 := cell_of wr G0.out (i := 0) rfl
      have c1 := cell_of wr G0.out (i := 1) rfl
      have f0 := frozen_of wr G0.out (i := 0)
      have f1 := frozen_of wr G0.out (i := 1)
      go_wp2_with fail
      exact bodyPost_ret (v := .tuple #[.int .i64 0, .agg #[.string ⟨#[]⟩, .int .i64 0], .bool false]) (by simp [results, Try.results78, go_sem, c0, c1]) rfl (HN.out (fun k h1 h2 => HALL.out k h1 h2) _ (below_set (below_set GB.out (Nat.le_refl _)) (Nat.le_refl _)))
    · obtain ⟨k, hk1, hk2, hk, hv, hbn⟩ := formsMap_mem e (by simp only [leftOf, Array.toList_filter, List.mem_filter] at he; exact he.1)
      have hns : (k - 1).toNat ∉ seen := by
        simp only [leftOf, Array.toList_filter, List.mem_filter, hbn] at he
        simpa using he.2
      rw [hk, hv] at hnx
      have hw1B : Below wr.heap.size wr w1 := by rcases hal with rfl | rfl <;> first | exact Below.refl _ _ | exact (Below.refl _ _).drew
      have hw1h : w1.heap = wr.heap := by rcases hal with rfl | rfl <;> rfl
      have hlt : w.heap.size + 1 + 1 < w1.heap.size := by rw [hw1h]; exact (Array.getElem?_eq_some_iff.1 G2.out).1
      obtain ⟨W1, hW1⟩ : ∃ W1, W1 = Go.ChangeMaps.setBlock w1 (w.heap.size + 1 + 1) (.mapIter (some (w.heap.size + 1)) 8 (seen.push e.born) 8) := ⟨_, rfl⟩
      rw [← hW1] at hnx
      have k2 : W1.heap[w.heap.size + 1 + 1]? = some (.mapIter (some (w.heap.size + 1)) 8 (seen.push e.born) 8) := by rw [hW1]; simp [Go.ChangeMaps.setBlock, hlt]
      have k1 : W1.heap[w.heap.size + 1]? = some (.map formsMap 8) := by rw [hW1, ← G1.out, ← hw1h]; simp only [Go.ChangeMaps.setBlock]; rw [Array.getElem?_setIfInBounds, if_neg (by omega)]
      have k0 : W1.heap[w.heap.size]? = some (.cells #[.string ⟨#[]⟩, .int .i64 0] 83 (0, 0)) := by rw [hW1, ← G0.out, ← hw1h]; simp only [Go.ChangeMaps.setBlock]; rw [Array.getElem?_setIfInBounds, if_neg (by omega)]
      have kB : Below w.heap.size w W1 := by
        rw [hW1]
        have h1 := GB.out.trans (hw1B.mono GB.out.size)
        exact ⟨h1.os, h1.tape, h1.output, by simpa [Go.ChangeMaps.setBlock] using h1.size, fun i hi => by rw [← h1.block i hi]; simp only [Go.ChangeMaps.setBlock]; rw [Array.getElem?_setIfInBounds]; rw [if_neg (by omega)]⟩
      have hen := run_entry_at (P := Try.prog) W1 (w.heap.size + 1 + 1) (w.heap.size + 1) 8 seen formsMap 8 e k2 k1 (by simp only [leftOf, Array.toList_filter, List.mem_filter] at he; exact he.1) formsMap_nodup
      rw [hk, hv] at hen
      unfold formVal at hnx hen
      rw [hbn] at k2
      have HLT := Aside0.mk (leftOf_push (es := formsMap) (seen := seen) (e := e) (by simp only [leftOf, Array.toList_filter, List.mem_filter] at he; exact he.1) (by rw [hbn]; exact hns))
      rw [hbn] at HLT
      have K0 := Aside0.mk k0
      have K1 := Aside0.mk k1
      have K2 := Aside0.mk k2
      have KB := Aside0.mk kB
      have KN := Aside0.mk hns
      have G2' := Aside0.mk G2.out
      have hsz1 : w.heap.size + 1 + 1 < W1.heap.size := (Array.getElem?_eq_some_iff.1 k2).1
      clear hW1 hw1B hw1h hal he hk hv hbn k0 k1 k2 kB hns hlt
      have hp := HP.out k
      obtain ⟨c, hc⟩ : ∃ c, formCode k = c := ⟨_, rfl⟩
      obtain ⟨n, hn⟩ : ∃ n, formRaw k = n := ⟨_, rfl⟩
      rw [hc] at hp hnx hen
      rw [hn] at hnx hen
      have HC := Aside0.mk hc
      have HNN := Aside0.mk hn
      have HPP := Aside0.mk hp
      clear hc hn hp
      cases hb : pre k with
      | false =>
        have HBB := Aside0.mk hb
        rw [hb] at HPP
        clear hb
        go_wp2_with (first | (go_at_call 66; refine (strings_HasPrefix.calls t c false _ HPP.out).mono ?_; rintro e w' ⟨rfl, ⟨m, rfl⟩⟩))
        go_roundw
        case rel => exact ⟨seen.push (k - 1).toNat, ⟨alloc_old (w := W1) _ K0.out⟩, ⟨alloc_old (w := W1) _ K1.out⟩, ⟨alloc_old (w := W1) _ K2.out⟩, ⟨fun k2 h1 h2 h3 => by
          rcases Array.mem_push.1 h3 with h | h
          · exact GS.out k2 h1 h2 h
          · have : k2 = k := by omega
            rw [this]; exact HBB.out⟩, ⟨pw_below_drewN (below_alloc KB.out _) m⟩⟩
        case measure =>
          rw [rangeLeft_of G1.out G2'.out, rangeLeft_of (w := (W1.alloc _).drewN m) (alloc_old (w := W1) _ K1.out) (alloc_old (w := W1) _ K2.out)]
          exact HLT.out
      | true =>
        rw [hb] at HPP
        have HBB := Aside0.mk hb
        clear hb
        go_wp2_with (first | (go_at_call 66; refine (strings_HasPrefix.calls t c true _ HPP.out).mono ?_; rintro e w' ⟨rfl, ⟨m, rfl⟩⟩))
        have c0 := cell_of W1 K0.out (i := 0) rfl
        have c1 := cell_of W1 K0.out (i := 1) rfl
        have f0 := frozen_of W1 K0.out (i := 0)
        have f1 := frozen_of W1 K0.out (i := 1)
        have hwl : w.heap.size < W1.heap.size := by omega
        go_region
        all_goals
          go_wp2_with fail
          refine bodyPost_ret (v := .tuple #[.int .i64 k, .agg #[.string c, .int .i64 n], .bool true]) (by simp [results, Try.results78, go_sem, c0, c1, hwl]) rfl ?_
          rw [← HC.out, ← HNN.out]
          exact HY.out k hk1 hk2 HBB.out _ (below_set (below_set (pw_below_drewN (below_alloc KB.out _) (m + 1)) (Nat.le_refl _)) (Nat.le_refl _))
theorem primitive_begins.calls (a0 : ByteArray) (r1 : Int) (r2 : ByteArray) (r3 : Int) (r4 : Bool) (w : World) (h : primitive_begins.f a0 = some (r1, r2, r3, r4)) :
    Calls Try.prog 78 #[.string a0] w fun e w' => e = .returned (.tuple #[.int .i64 r1, .agg #[.string r2, .int .i64 r3], .bool r4]) ∧ Below w.heap.size w w' := by
  simp only [primitive_begins.f, Option.some.injEq, Prod.mk.injEq] at h
  obtain ⟨rfl, rfl, rfl, rfl⟩ := h
  refine primitive_begins.callsA a0 w _ (fun k => isPre a0 (formCode k)) (fun k => hasPrefix_is a0 (formCode k)) (fun k h1 h2 h3 w' hb => ⟨?_, hb⟩) (fun hn w' hb => ⟨?_, hb⟩)
  · have := codeOf_pre a0 k h1 h2 h3
    rw [this, decide_eq_true (show k ≠ 0 by omega)]
  · rw [codeOf_none a0 hn]
    rfl

/-! ### primitive_form_size: function 79 -/
def primitive_form_size.f (a0_0 : ByteArray) (a0_1 : Int) : Option (Int) := (primitive_form_lead.f a0_0 a0_1).bind fun t205 => ((primitive_form_lead.f a0_0 a0_1).bind fun t206 => (some (wrap64 ((wrap64 ((a0_0.size : Int) + (wrap64 ((wrap64 (Int.tdiv (wrap64 (a0_1 + t205)) 3)) * 4)))) - t206))))
def primitive_form_size.T1 : Bool × List (List Nat × List Nat) := (true, [([], []), ([0], [0]), ([1], [1]), ([], []), ([3], [3]), ([], []), ([5], [5]), ([4,6], [4,6]), ([7], [7]), ([8], [8]), ([2,9], [2,9]), ([], []), ([11,6], [11]), ([10,12], [10,12]), ([13,12,0,1,2,3,4,5,6,7,8,9,10,11,12,13], [13])])
def primitive_form_size.B1 : List Nat := [0,1,3,0,8,0,32,120,248,504,1023,0,2144,8191,16383]
theorem primitive_form_size.tab1 : rtab .any (opsOf Try.f79 1) = primitive_form_size.T1 := by kernel_rfl
theorem primitive_form_size.bits1 : waitsOk primitive_form_size.T1.2 primitive_form_size.B1 = true := by kernel_rfl
set_option maxHeartbeats 8000000 in
set_option maxRecDepth 100000 in
theorem primitive_form_size.calls (a0_0 : ByteArray) (a0_1 : Int) (r : Int) (w : World) (h : primitive_form_size.f a0_0 a0_1 = some r) :
    Calls Try.prog 79 #[.agg #[.string a0_0, .int .i64 a0_1]] w fun e w' => e = .returned (.int .i64 r) ∧ Below w.heap.size w w' := by
 have hu83 := Try.underlying83
 have HB := Aside0.mk (Below.refl w.heap.size w)
 have H : ((primitive_form_lead.f a0_0 a0_1).bind fun t205 => ((primitive_form_lead.f a0_0 a0_1).bind fun t206 => (some (wrap64 ((wrap64 ((a0_0.size : Int) + (wrap64 ((wrap64 (Int.tdiv (wrap64 (a0_1 + t205)) 3)) * 4)))) - t206))))) = some r := h
 clear h
 obtain ⟨t205, A2, H⟩ := bindS H
 obtain ⟨t206, A3, H⟩ := bindS H
 obtain rfl := Option.some.inj H
 go_enter Try.func79, Try.ntmps79
 try go_wp2_with (first | ((with_reducible refine gate_dst (N := 1) rfl ?_); refine box_event ?hg (N := 1) ?hd (cs := #[.string a0_0, .int .i64 a0_1]) (t := 83) ?hr ?_; (case hd => rfl); (case hg => rfl); (case hr => first | (go_simp; done) | (go_simp; rfl)); intro gb204 hg w4 hbox hb; have BK204 := Aside0.mk (hbox); have GW204 := Aside0.mk ((by rw [hg]; exact (below_size (hq HB.out)) : w.heap.size ≤ gb204)); have GE204 := Aside0.mk ((by rw [hg]; exact (below_size (hq HB.out)) : w.heap.size ≤ gb204)); replace HB := Aside0.mk (below_step (hq HB.out) hb); clear hb hbox hg))
 replace BK204 := Aside0.mk (blk_drew BK204.out)
 replace HB := Aside0.mk (below_drew1 HB.out)
 refine start_ (n := 15) (S := fun w' => w'.cell? ⟨gb204, 0, none⟩ = some (.string a0_0) ∧ w'.cell? ⟨gb204, 1, none⟩ = some (.int .i64 a0_1)) (ds := []) #[false,false,false,false,false,false,false,false,false,false,false,false,false,false,false] (by kernel_rfl) rfl rfl ⟨(blk_cell BK204.out 0).trans rfl, (blk_cell BK204.out 1).trans rfl⟩ (fun hHeld => ?_); refine with_tabW primitive_form_size.tab1 primitive_form_size.bits1 (fun HT_ HW_ => ?_)
 generalize w4.drew = w5 at BK204 HB hHeld ⊢
 refine pure_ (i := 0) (N := some 3) (v := ?_) (a' := ?_) #[true,false,false,false,false,false,false,false,false,false,false,false,false,false,false] rfl rfl (any_of HT_.out (by kernel_rfl)) (fun _ _ _ h => h) (Or.inl ⟨by rfl, pv⟩) pp ?_
 refine pure_ (i := 3) (N := some 6) (v := ?_) (a' := ?_) #[true,false,false,true,false,false,false,false,false,false,false,false,false,false,false] rfl rfl (any_of HT_.out (by kernel_rfl)) (fun _ _ _ h => h) (Or.inl ⟨by rfl, pv⟩) pp ?_
 refine take_ (i := 1) (N := some 4) (v := ?_) (a' := ?_) #[true,true,false,true,false,false,false,false,false,false,false,false,false,false,false] rfl rfl (take_ofW HT_.out HW_.out (by kernel_rfl)) (fun _ _ _ h => h) (Or.inl ⟨by rfl, by rintro w' ⟨s0, s1⟩; go_simp; with_reducible rfl⟩) hHeld pp ?_
 refine pure_ (i := 2) (N := some 5) (v := ?_) (a' := ?_) #[true,true,true,true,false,false,false,false,false,false,false,false,false,false,false] rfl rfl (any_of HT_.out (by kernel_rfl)) (fun _ _ _ h => h) (Or.inl ⟨by rfl, pv⟩) pp ?_
 refine take_ (i := 4) (N := some 7) (v := ?_) (a' := ?_) #[true,true,true,true,true,false,false,false,false,false,false,false,false,false,false] rfl rfl (take_ofW HT_.out HW_.out (by kernel_rfl)) (fun _ _ _ h => h) (Or.inl ⟨by rfl, by rintro w' ⟨s0, s1⟩; go_simp; with_reducible rfl⟩) hHeld pp ?_
 refine take_ (i := 5) (N := some 8) (v := ?_) (a' := ?_) #[true,true,true,true,true,true,false,false,false,false,false,false,false,false,false] rfl rfl (take_ofW HT_.out HW_.out (by kernel_rfl)) (fun _ _ _ h => h) (Or.inl ⟨by rfl, by rintro w' ⟨s0, s1⟩; go_simp; with_reducible rfl⟩) hHeld pp ?_
 refine take_ (i := 11) (N := some 14) (v := ?_) (a' := ?_) #[true,true,true,true,true,true,false,false,false,false,false,true,false,false,false] rfl rfl (take_ofW HT_.out HW_.out (by kernel_rfl)) (fun _ _ _ h => h) (Or.inl ⟨by rfl, by rintro w' ⟨s0, s1⟩; go_simp; with_reducible rfl⟩) hHeld pp ?_
 refine one_ (i := 6) (N := some 9) #[true,true,true,true,true,true,true,false,false,false,false,true,false,false,false] rfl rfl (one_of HT_.out (by kernel_rfl)) (by decide) (fun K hK => ?_)
 refine goes_ Try.func54 (by kernel_rfl) rfl #[.agg #[.string a0_0, .int .i64 a0_1]] (by rfl) rfl rfl eq_ ?_
 with_reducible refine (primitive_form_lead.calls a0_0 a0_1 t205 _ A2.out).mono ?_
 rintro e w6 ⟨rfl, hb⟩
 refine ⟨_, rfl, ?_⟩
 replace BK204 := Aside0.mk (blk_below (g := gb204) (o := .cells #[.string a0_0, .int .i64 a0_1] 83 (0, 0)) (bq BK204.out) hb)
 replace HB := Aside0.mk (below_step (hq1 HB.out GE204.out) hb)
 (try clear hb)
 refine hK.out _ _ ⟨(blk_cell BK204.out 0).trans rfl, (blk_cell BK204.out 1).trans rfl⟩ (fun hHeld => ?_)
 clear hK K
 refine norm_ (a' := ?_) (show Act.put _ (some 9) _ = _ from pp) ?_
 refine pure_ (i := 7) (N := some 10) (v := ?_) (a' := ?_) #[true,true,true,true,true,true,true,true,false,false,false,true,false,false,false] rfl rfl (any_of HT_.out (by kernel_rfl)) (fun _ _ _ h => h) (Or.inl ⟨by rfl, pv⟩) pp ?_
 refine pure_ (i := 8) (N := some 11) (v := ?_) (a' := ?_) #[true,true,true,true,true,true,true,true,true,false,false,true,false,false,false] rfl rfl (any_of HT_.out (by kernel_rfl)) (fun _ _ _ h => h) (Or.inl ⟨by rfl, pv⟩) pp ?_
 refine pure_ (i := 9) (N := some 12) (v := ?_) (a' := ?_) #[true,true,true,true,true,true,true,true,true,true,false,true,false,false,false] rfl rfl (any_of HT_.out (by kernel_rfl)) (fun _ _ _ h => h) (Or.inl ⟨by rfl, pv⟩) pp ?_
 refine pure_ (i := 10) (N := some 13) (v := ?_) (a' := ?_) #[true,true,true,true,true,true,true,true,true,true,true,true,false,false,false] rfl rfl (any_of HT_.out (by kernel_rfl)) (fun _ _ _ h => h) (Or.inl ⟨by rfl, pv⟩) pp ?_
 refine one_ (i := 12) (N := some 15) #[true,true,true,true,true,true,true,true,true,true,true,true,true,false,false] rfl rfl (one_of HT_.out (by kernel_rfl)) (by decide) (fun K hK => ?_)
 refine goes_ Try.func54 (by kernel_rfl) rfl #[.agg #[.string a0_0, .int .i64 a0_1]] (by rfl) rfl rfl eq_ ?_
 with_reducible refine (primitive_form_lead.calls a0_0 a0_1 t206 _ A3.out).mono ?_
 rintro e w7 ⟨rfl, hb⟩
 refine ⟨_, rfl, ?_⟩
 replace BK204 := Aside0.mk (blk_below (g := gb204) (o := .cells #[.string a0_0, .int .i64 a0_1] 83 (0, 0)) (bq BK204.out) hb)
 replace HB := Aside0.mk (below_step (hq1 HB.out GE204.out) hb)
 (try clear hb)
 refine hK.out _ _ ⟨(blk_cell BK204.out 0).trans rfl, (blk_cell BK204.out 1).trans rfl⟩ (fun hHeld => ?_)
 clear hK K
 refine norm_ (a' := ?_) (show Act.put _ (some 15) _ = _ from pp) ?_
 refine pure_ (i := 13) (N := some 16) (v := ?_) (a' := ?_) #[true,true,true,true,true,true,true,true,true,true,true,true,true,true,false] rfl rfl (any_of HT_.out (by kernel_rfl)) (fun _ _ _ h => h) (Or.inl ⟨by rfl, pv⟩) pp ?_
 refine pure_ (i := 14) (N := some 2) (v := ?_) (a' := ?_) #[true,true,true,true,true,true,true,true,true,true,true,true,true,true,true] rfl rfl (any_of HT_.out (by kernel_rfl)) (fun _ _ _ h => h) (Or.inl ⟨by rfl, pv⟩) pp ?_
 refine done_ (done_of HT_.out (by kernel_rfl)) ?_
 try go_wp2
 go_ret
 exact ⟨rq_, hq1 HB.out GE204.out⟩

/-! ### stringslite_CutPrefix: function 83 -/
def stringslite_CutPrefix.f (a0 : ByteArray) (a1 : ByteArray) : Option (ByteArray × Bool) := (stringslite_HasPrefix.f a0 a1).bind fun t207 => (if t207 = true then (if 0 ≤ (a1.size : Int) then (if (a1.size : Int) ≤ (a0.size : Int) then (some (a0.extract ((a1.size : Int) : Int).toNat a0.size, true)) else (none)) else (none)) else (some (a0, false)))
set_option maxHeartbeats 8000000 in
set_option maxRecDepth 100000 in
theorem stringslite_CutPrefix.calls (a0 : ByteArray) (a1 : ByteArray) (r1 : ByteArray) (r2 : Bool) (w : World) (h : stringslite_CutPrefix.f a0 a1 = some (r1, r2)) :
    Calls Try.prog 83 #[.string a0, .string a1] w fun e w' => e = .returned (.tuple #[.string r1, .bool r2]) ∧ Drawn0 w w' := by
 have H : ((stringslite_HasPrefix.f a0 a1).bind fun t207 => (if t207 = true then (if 0 ≤ (a1.size : Int) then (if (a1.size : Int) ≤ (a0.size : Int) then (some (a0.extract ((a1.size : Int) : Int).toNat a0.size, true)) else (none)) else (none)) else (some (a0, false)))) = some (r1, r2) := h
 clear h
 obtain ⟨t207, A3, H⟩ := bindS H
 by_cases c4 : t207 = true
 ·subst c4
  rw [if_pos rfl] at H
  by_cases c5 : 0 ≤ (a1.size : Int)
  ·rw [if_pos c5] at H
   have c5b0 := eq_true c5
   have c5b1 := decide_eq_true c5
   clear c5
   by_cases c6 : (a1.size : Int) ≤ (a0.size : Int)
   ·rw [if_pos c6] at H
    have c6b0 := eq_true c6
    have c6b1 := decide_eq_true c6
    clear c6
    simp only [Option.some.injEq, Prod.mk.injEq] at H
    obtain ⟨rfl, rfl⟩ := H
    go_enter Try.func83, Try.ntmps83
    go_wp2_with (first | ((with_reducible refine gate_callee (f := 76) rfl ?_); refine goesL_ (some 8) rfl rfl Try.func76 (by kernel_rfl) rfl #[.string a0, .string a1] rfl eq_ ?_; (with_reducible refine (stringslite_HasPrefix.calls a0 a1 true _ A3.out).mono ?_); rintro e w' ⟨rfl, ⟨nd, rfl⟩⟩; refine ⟨_, rfl, ?_⟩))
    go_ret2
    exact ⟨by first | rfl | (simp; done) | (simp [*]; done), by repeat (first | exact Drawn0.refl _ | apply Drawn0.step)⟩
   ·rw [if_neg c6] at H
    exact absurd H (by simp)
  ·rw [if_neg c5] at H
   exact absurd H (by simp)
 ·replace c4 := Bool.eq_false_iff.mpr c4
  subst c4
  rw [if_neg (show ¬ (false = true) by decide)] at H
  simp only [Option.some.injEq, Prod.mk.injEq] at H
  obtain ⟨rfl, rfl⟩ := H
  go_enter Try.func83, Try.ntmps83
  go_wp2_with (first | ((with_reducible refine gate_callee (f := 76) rfl ?_); refine goesL_ (some 8) rfl rfl Try.func76 (by kernel_rfl) rfl #[.string a0, .string a1] rfl eq_ ?_; (with_reducible refine (stringslite_HasPrefix.calls a0 a1 false _ A3.out).mono ?_); rintro e w' ⟨rfl, ⟨nd, rfl⟩⟩; refine ⟨_, rfl, ?_⟩))
  go_ret2
  exact ⟨by first | rfl | (simp; done) | (simp [*]; done), by repeat (first | exact Drawn0.refl _ | apply Drawn0.step)⟩

/-! ### strings_CutPrefix: function 80 -/
def strings_CutPrefix.f (a0 : ByteArray) (a1 : ByteArray) : Option (ByteArray × Bool) := (stringslite_CutPrefix.f a0 a1).bind fun bt208 => (some (bt208.1, bt208.2))
set_option maxHeartbeats 8000000 in
set_option maxRecDepth 100000 in
theorem strings_CutPrefix.calls (a0 : ByteArray) (a1 : ByteArray) (r1 : ByteArray) (r2 : Bool) (w : World) (h : strings_CutPrefix.f a0 a1 = some (r1, r2)) :
    Calls Try.prog 80 #[.string a0, .string a1] w fun e w' => e = .returned (.tuple #[.string r1, .bool r2]) ∧ Drawn0 w w' := by
 have H : ((stringslite_CutPrefix.f a0 a1).bind fun bt208 => (some (bt208.1, bt208.2))) = some (r1, r2) := h
 clear h
 obtain ⟨⟨t208, t209⟩, A3, H⟩ := bindS H
 try dsimp only at H
 simp only [Option.some.injEq, Prod.mk.injEq] at H
 obtain ⟨rfl, rfl⟩ := H
 go_enter Try.func80, Try.ntmps80
 go_wp2_with (first | ((with_reducible refine gate_callee (f := 83) rfl ?_); refine goesL_ (some 8) rfl rfl Try.func83 (by kernel_rfl) rfl #[.string a0, .string a1] rfl eq_ ?_; (with_reducible refine (stringslite_CutPrefix.calls a0 a1 t208 t209 _ A3.out).mono ?_); rintro e w' ⟨rfl, ⟨nd, rfl⟩⟩; refine ⟨_, rfl, ?_⟩))
 go_ret2
 exact ⟨by first | rfl | (simp; done) | (simp [*]; done), by repeat (first | exact Drawn0.refl _ | apply Drawn0.step)⟩

end Go.Proofs.Ytookjdhfpbmjkaa.X
