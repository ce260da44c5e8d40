/- General lemmas that the kit lacks, of no program: maps of whole numbers held by a block that the call made, and a make with a capacity. Conditions: each lemma's own. -/
import Derived.Test.YtookjdhfpbmjkaaWMore
import Derived.Test.YtookjdhfpbmjkaaWInvWords
import Derived.Maps.RangeWalk
import Derived.Carry
import Derived.Lib.ConvBytes
namespace Go.Proofs.YtookjdhfpbmjkaaW.PrintWords
set_option linter.unusedVariables false
set_option linter.unusedSimpArgs false
open Go.RowKit
open Go.ChangeMaps (setBlock)

theorem push_set {α : Type} (l : Array α) (x y : α) : (l.push x).setIfInBounds l.size y = l.push y := by
  apply Array.ext
  · simp
  · intro i h1 h2
    rw [Array.getElem_setIfInBounds]
    · simp only [Array.getElem_push]
      split
      · rename_i h; subst h; simp
      · rename_i h
        have h1' : i < l.size + 1 := by simpa using h1
        rw [Array.getElem_push_lt (by omega), dif_pos (by omega)]
    · simpa using h1

theorem alloc_at (w : World) (o : Obj) {n : Nat} (h : n = w.heap.size) : (w.alloc o).heap[n]? = some o := by subst h; exact (MapKept.heap_alloc w o).1
theorem alloc_old {w : World} (o : Obj) {n : Nat} {x : Obj} (h : w.heap[n]? = some x) : (w.alloc o).heap[n]? = some x := ((MapKept.heap_alloc w o).2 n (Array.getElem?_eq_some_iff.1 h).1).trans h
theorem cell_of (w : World) {g i : Nat} {cs : Array Value} {t : TypeId} {fr : Nat × Nat} {v : Value} (h : w.heap[g]? = some (.cells cs t fr)) (hv : cs[i]? = some v) : w.cell? ⟨g, i, none⟩ = some v := by simp [World.cell?, h, hv]
theorem below_old {B : Nat} {w w1 : World} (hb : Below B w w1) {n : Nat} {x : Obj} (h : w.heap[n]? = some x) (hn : n < B) : w1.heap[n]? = some x := (hb.block n hn).trans h

theorem frozen_of (w : World) {g i : Nat} {cs : Array Value} {t : TypeId} (h : w.heap[g]? = some (.cells cs t (0, 0))) : w.frozen? ⟨g, i, none⟩ = false := by simp [World.frozen?, h]
theorem leftOf_push {es : Array MapEntry} {seen : Array Nat} {e : MapEntry} (he : e ∈ es.toList) (hs : e.born ∉ seen) : (leftOf es (seen.push e.born)).size < (leftOf es seen).size := by
  have h1 : (leftOf es (seen.push e.born)).toList = (leftOf es seen).toList.filter (fun x => x.born != e.born) := by
    simp only [leftOf, Array.toList_filter, List.filter_filter]
    refine List.filter_congr (fun x _ => ?_)
    by_cases h : x.born = e.born <;> simp [h]
  have h2 : ((leftOf es seen).toList.filter (fun x => x.born != e.born)).length < (leftOf es seen).toList.length := by
    rw [List.length_filter_lt_length_iff_exists]
    exact ⟨e, by simp only [leftOf, Array.toList_filter, List.mem_filter]; exact ⟨he, by simpa using hs⟩, by simp⟩
  rw [← h1] at h2
  simpa using h2
theorem rangeLeft_of {w : World} {b r : Nat} {es : Array MapEntry} {c since c0 : Nat} {m : Option Nat} {seen : Array Nat} (h1 : w.heap[b]? = some (.map es c)) (h2 : w.heap[r]? = some (.mapIter m since seen c0)) : w.rangeLeft b r = (leftOf es seen).size := by
  simp [World.rangeLeft, h1, h2]

/-- 'm[k] = v' into the map that lies in the newest block, at a key that it does not hold. -/
theorem run_insert_new {P : Program} {t kt e : TypeId} (ht : P.underlying t = some (.map kt e)) (hk : P.underlying kt = some (.int .i64))
    (w : World) (es : Array MapEntry) (c : Nat) (k : Int) (v : Value) (hf : Instr.findNow (.int .i64) (.int .i64 k) es.toList 0 = some none) :
    (Instr.mapUpdate t (.map (some w.heap.size)) (.int .i64 k) v).run P (w.alloc (.map es c)) = .ok () (w.alloc (.map (es.push ⟨.int .i64 k, v, c⟩) (c + 1))) := by
  have hb : (w.alloc (.map es c)).heap[w.heap.size]? = some (.map es c) := (MapKept.heap_alloc w _).1
  have e : (w.alloc (.map es c)).heap.setIfInBounds w.heap.size (.map (es.push ⟨.int .i64 k, v, c⟩) (c + 1)) = (w.alloc (.map (es.push ⟨.int .i64 k, v, c⟩) (c + 1))).heap := push_set _ _ _
  simp [Instr.mapUpdate, run_underlying ht, MapKept.run_getObj_map hb, MapKept.run_checkKey hk (k := .int .i64 k) (by trivial), MapKept.run_findKey hk hf, MapKept.run_setObj_map _ hb, Result.andThen]
  rw [e]; rfl

/-- 'm[k]' of a map that lies in some block. -/
theorem run_lookup_at {P : Program} {t kt e : TypeId} (ht : P.underlying t = some (.map kt e)) (hk : P.underlying kt = some (.int .i64)) {w : World} {b : Nat} {es : Array MapEntry} {c : Nat} (hb : w.heap[b]? = some (.map es c))
    (k : Int) (co : Bool) {r : Option (Nat × Value)} (hf : Instr.findNow (.int .i64) (.int .i64 k) es.toList 0 = some r) {z : Value} (hz : (zeroValue e).run P w = .ok z w) :
    (Instr.lookup t (.map (some b)) (.int .i64 k) co).run P w = .ok (if co then .tuple #[(r.map (·.2)).getD z, .bool r.isSome] else (r.map (·.2)).getD z) w := by
  cases r with
  | none => simp [Instr.lookup, run_underlying ht, MapKept.run_getObj_map hb, MapKept.run_checkKey hk (k := .int .i64 k) (by trivial), MapKept.run_findKey hk hf, hz, Result.andThen]
  | some p => simp [Instr.lookup, run_underlying ht, MapKept.run_getObj_map hb, MapKept.run_checkKey hk (k := .int .i64 k) (by trivial), MapKept.run_findKey hk hf, Result.andThen]

namespace Kd
section
variable {α : Type} {P : Program} {ops : Array Oper} {rest : List Oper} {o : Oper} {a : Act} {Q : Exit → Act → World → Prop}
/-- make([]T, 0, c): no element, room for some. -/
theorem R_makecap (d : Kd α) {w0 W : World} (base e : Nat) (hgd : o.guard = none) {N : Tmp} (_hd : o.dst = some N) (t : TypeId) (x y : Operand) (ho : o.op = .makeSlice t x y) (n : Int) (hx : a.eval x = .int .i64 0) (hy : a.eval y = .int .i64 n)
    (ht : P.underlying t = some (.slice e)) (z : Value) (bytes : Nat) (hinfo : (P.info? e).map (fun i => (i.zero, i.size, i.bytes)) = some (some z, d.sz, bytes)) (hb0 : 0 < bytes)
    {ok : Nat → Prop} (hfresh : ok W.heap.size) (h0 : 0 ≤ n) (hl : n.toNat * bytes ≤ 281474976710656) (HB : Below base w0 W) (hbase : base ≤ W.heap.size)
    (h : ∀ v1 w1, d.R e w1 base ok v1 [] → Below base w0 w1 → W.grownBy w1 none → (∃ b, v1.ownBlock = some b ∧ W.heap.size ≤ b) → wpList P ops Q rest (a.put o.dst v1) w1) : wpList P ops Q (o :: rest) a W := by
  obtain ⟨m, rfl⟩ := Int.eq_ofNat_of_zero_le h0
  simp only [Int.toNat_natCast] at hl h
  obtain ⟨i0, hi, hzz⟩ := Option.map_eq_some_iff.1 hinfo
  simp only [Prod.mk.injEq] at hzz
  obtain ⟨hz0, hz1, hz2⟩ := hzz
  have hm : m ≤ 281474976710656 := Nat.le_trans (Nat.le_mul_of_pos_right _ hb0) hl
  have hr := run_make (P := P) W t e i0 z ht hi hz0 .i64 .i64 0 (m : Int) (by omega) (by omega)
    (by
      have h3 : ((i0.bytes * m : Nat) : Int) ≤ 281474976710656 := by rw [hz2, Nat.mul_comm]; omega
      rwa [Int.natCast_mul] at h3) (by omega)
  have hrun : (execOp a.eval o).run P W = .ok (.value (.slice (some ⟨W.heap.size, 0, none⟩) 0 m)) (W.alloc (.cells (madeCells z.cells (m * d.sz)) e)) := by
    simp [execOp, ho, hx, hy, hr, hz1]
  refine event_run hgd hrun (h _ _ ⟨fun k hk => ?_, [], ?_, ?_⟩ (HB.alloc hbase _) (World.grownBy_alloc W _ none) ⟨W.heap.size, by simp [Value.ownBlock], Nat.le_refl _⟩)
  · have : W.heap.size = k := by simpa [Value.ownBlock] using hk
    subst this
    exact hfresh
  · exact World.ownsRow_made W _ m hbase (by simp only [maxLen]; omega) (size_madeCells _ _)
  · exact ⟨by simp, fun j p hj => by simp at hj⟩
end
end Kd
end Go.Proofs.YtookjdhfpbmjkaaW.PrintWords
