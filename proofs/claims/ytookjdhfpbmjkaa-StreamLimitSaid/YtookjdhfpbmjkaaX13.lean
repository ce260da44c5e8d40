-- Written by xprint.py, a program of this repo that leads the kit's print.py: Lean checks it.
import Derived.Test.YtookjdhfpbmjkaaX0
import Derived.Test.YtookjdhfpbmjkaaX5
import Derived.Test.YtookjdhfpbmjkaaX11
import Derived.Test.YtookjdhfpbmjkaaX12
namespace Go.Proofs.Ytookjdhfpbmjkaa.X
open Go.RowKit Go.Proofs.YtookjdhfpbmjkaaW.PrintWords Go.Proofs.YtookjdhfpbmjkaaW.PrintLast Go.Proofs.YtookjdhfpbmjkaaW.PrintMore
attribute [local go_sem] max2_int min2_int max_two min_two max_three min_three max_four min_four   -- for this text's walks alone
set_option linter.unusedVariables false
set_option linter.unusedSimpArgs false

/-! ### primitive_Decode: function 70 -/
def primitive_Decode.f (k : Nat) (a0 : ByteArray) : Option (Int × ByteArray × Int × Int) := (primitive_begins.f a0).bind fun bt211 => (if bt211.2.2.2 = true then ((primitive_form_size.f bt211.2.1 bt211.2.2.1).bind fun t216 => (if (a0.size : Int) < t216 then (some (0, (⟨#[]⟩ : ByteArray), 0, 8)) else ((primitive_form_lead.f bt211.2.1 bt211.2.2.1).bind fun t217 => ((strings_Repeat.f (⟨#[0]⟩ : ByteArray) t217).bind fun t218 => ((primitive_form_lead.f bt211.2.1 bt211.2.2.1).bind fun t219 => ((strings_Repeat.f (⟨#[65]⟩ : ByteArray) t219).bind fun t220 => ((primitive_form_size.f bt211.2.1 bt211.2.2.1).bind fun t221 => (if 0 ≤ (bt211.2.1.size : Int) then (if (bt211.2.1.size : Int) ≤ t221 then (if t221 ≤ (a0.size : Int) then (if t220.size + (a0.extract ((bt211.2.1.size : Int) : Int).toNat (t221 : Int).toNat).size ≤ 9223372036854775807 then ((base64_Decode.f k (t220 ++ (a0.extract ((bt211.2.1.size : Int) : Int).toNat (t221 : Int).toNat))).bind fun bt222 => ((strings_CutPrefix.f bt222.1 t218).bind fun bt224 => (if bt222.2 = 0 then (if bt224.2 = true then ((primitive_form_size.f bt211.2.1 bt211.2.2.1).bind fun t226 => (some (bt211.1, bt224.1, t226, 0))) else (some (0, (⟨#[]⟩ : ByteArray), 0, 4))) else (some (0, (⟨#[]⟩ : ByteArray), 0, 4))))) else (none)) else (none)) else (none)) else (none))))))))) else (some (0, (⟨#[]⟩ : ByteArray), 0, 7)))
theorem primitive_Decode.mono : ∀ a0 k, LeO (primitive_Decode.f k a0) (primitive_Decode.f (k + 1) a0) := by
  intro a0 k
  unfold primitive_Decode.f
  repeat' first
      | (with_reducible exact base64_Decode.mono _ _)
      | (with_reducible exact LeO.refl _)
      | (with_reducible exact LeO.none _)
      | (with_reducible refine LeO.ite ?_ ?_)
      | (with_reducible refine LeO.bind ?_ (fun _ => ?_))
      | exact base64_Decode.mono _ _
      | exact LeO.none _
      | refine LeO.ite ?_ ?_
      | refine LeO.bind ?_ (fun _ => ?_)
def primitive_Decode.T7 : Bool × List (List Nat × List Nat) := (true, [([], []), ([0], [0]), ([1,1], [1]), ([], []), ([], []), ([4], [4]), ([5], [5]), ([], []), ([7,2], [7]), ([3,6,8], [3,6,8]), ([2,9], [2,9]), ([10,8], [10]), ([11], [11]), ([12], [12]), ([12], [12]), ([13,11,0,1,2,3,4,5,6,7,8,9,10,11,12,13], [13]), ([14,15,0,1,2,3,4,5,6,7,8,9,10,11,12,13,14,15], [14])])
def primitive_Decode.B7 : List Nat := [0,1,3,0,0,16,48,0,135,511,1023,2047,4095,8191,8191,16383,65535]
theorem primitive_Decode.tab7 : rtab .any (opsOf Try.f70 7) = primitive_Decode.T7 := by kernel_rfl
theorem primitive_Decode.bits7 : waitsOk primitive_Decode.T7.2 primitive_Decode.B7 = true := by kernel_rfl
set_option maxHeartbeats 8000000 in
set_option maxRecDepth 100000 in
theorem primitive_Decode.calls (k : Nat) (a0 : ByteArray) (r1 : Int) (r2 : ByteArray) (r3 : Int) (r4 : Int) (w : World) (h : primitive_Decode.f k a0 = some (r1, r2, r3, r4)) :
    Calls Try.prog 70 #[.string a0] w fun e w' => e = .returned (.tuple #[.agg #[.int .i64 r1, .string r2], .int .i64 r3, .int .i64 r4]) ∧ Below w.heap.size w w' := by
 have hu27 := Try.underlying27
 have hu83 := Try.underlying83
 have HB := Aside0.mk (Below.refl w.heap.size w)
 have H : ((primitive_begins.f a0).bind fun bt211 => (if bt211.2.2.2 = true then ((primitive_form_size.f bt211.2.1 bt211.2.2.1).bind fun t216 => (if (a0.size : Int) < t216 then (some (0, (⟨#[]⟩ : ByteArray), 0, 8)) else ((primitive_form_lead.f bt211.2.1 bt211.2.2.1).bind fun t217 => ((strings_Repeat.f (⟨#[0]⟩ : ByteArray) t217).bind fun t218 => ((primitive_form_lead.f bt211.2.1 bt211.2.2.1).bind fun t219 => ((strings_Repeat.f (⟨#[65]⟩ : ByteArray) t219).bind fun t220 => ((primitive_form_size.f bt211.2.1 bt211.2.2.1).bind fun t221 => (if 0 ≤ (bt211.2.1.size : Int) then (if (bt211.2.1.size : Int) ≤ t221 then (if t221 ≤ (a0.size : Int) then (if t220.size + (a0.extract ((bt211.2.1.size : Int) : Int).toNat (t221 : Int).toNat).size ≤ 9223372036854775807 then ((base64_Decode.f k (t220 ++ (a0.extract ((bt211.2.1.size : Int) : Int).toNat (t221 : Int).toNat))).bind fun bt222 => ((strings_CutPrefix.f bt222.1 t218).bind fun bt224 => (if bt222.2 = 0 then (if bt224.2 = true then ((primitive_form_size.f bt211.2.1 bt211.2.2.1).bind fun t226 => (some (bt211.1, bt224.1, t226, 0))) else (some (0, (⟨#[]⟩ : ByteArray), 0, 4))) else (some (0, (⟨#[]⟩ : ByteArray), 0, 4))))) else (none)) else (none)) else (none)) else (none))))))))) else (some (0, (⟨#[]⟩ : ByteArray), 0, 7)))) = some (r1, r2, r3, r4) := h
 clear h
 obtain ⟨⟨t211, t212, t213, t214⟩, A2, H⟩ := bindS H
 try dsimp only at H
 by_cases c3 : t214 = true
 ·subst c3
  rw [if_pos rfl] at H
  obtain ⟨t216, A4, H⟩ := bindS H
  by_cases c5 : (a0.size : Int) < t216
  ·rw [if_pos c5] at H
   have c5b0 := decide_eq_true c5
   clear c5
   simp only [Option.some.injEq, Prod.mk.injEq] at H
   obtain ⟨rfl, rfl, rfl, rfl⟩ := H
   go_enter Try.func70, Try.ntmps70
   go_wp2_with (first | ((with_reducible refine gate_dst (N := 2) rfl ?_); refine box_event ?hg (N := 2) ?hd (cs := #[.int .i64 0, .string (⟨#[]⟩ : ByteArray)]) (t := 27) ?hr ?_; (case hd => rfl); (case hg => rfl); (case hr => first | (go_simp; done) | (go_simp; rfl)); intro gb210 hg w6 hbox hb; have BK210 := Aside0.mk (hbox); have GW210 := Aside0.mk ((by rw [hg]; exact (below_size (hq HB.out)) : w.heap.size ≤ gb210)); have GE210 := Aside0.mk ((by rw [hg]; exact (below_size (hq HB.out)) : w.heap.size ≤ gb210)); replace HB := Aside0.mk (below_step (hq HB.out) hb); clear hb hbox hg) | ((with_reducible refine gate_callee (f := 78) rfl ?_); refine goesL_ (some 14) rfl rfl Try.func78 (by kernel_rfl) rfl #[.string a0] rfl eq_ ?_; (with_reducible refine (primitive_begins.calls a0 t211 t212 t213 true _ A2.out).mono ?_); rintro e w7 ⟨rfl, hb⟩; refine ⟨_, rfl, ?_⟩; replace BK210 := Aside0.mk (blk_below (g := gb210) (o := .cells #[.int .i64 0, .string (⟨#[]⟩ : ByteArray)] 27 (0, 0)) (bq BK210.out) hb); replace HB := Aside0.mk (below_step (hq1 HB.out GE210.out) hb); (try clear hb)) | ((with_reducible refine gate_dst (N := 6) rfl ?_); refine box_event ?hg (N := 6) ?hd (cs := #[.string (⟨#[]⟩ : ByteArray), .int .i64 0]) (t := 83) ?hr ?_; (case hd => rfl); (case hg => rfl); (case hr => first | (go_simp; done) | (go_simp; rfl)); intro gb215 hg w8 hbox hb; have BK215 := Aside0.mk (hbox); have GW215 := Aside0.mk ((by rw [hg]; exact (below_size (hq1 HB.out GE210.out)) : w.heap.size ≤ gb215)); have GE215 := Aside0.mk ((by rw [hg]; exact (below_size (hq1 HB.out GE210.out)) : w.heap.size ≤ gb215)); replace HB := Aside0.mk (below_step (hq1 HB.out GE210.out) hb); have NB210_215 := Aside0.mk ((by rw [hg]; exact Nat.ne_of_lt (blk_lt (g := gb210) (o := .cells #[.int .i64 0, .string (⟨#[]⟩ : ByteArray)] 27 (0, 0)) (bq BK210.out)) : gb210 ≠ gb215)); have NB215_210 := Aside0.mk ((by rw [hg]; exact Nat.ne_of_gt (blk_lt (g := gb210) (o := .cells #[.int .i64 0, .string (⟨#[]⟩ : ByteArray)] 27 (0, 0)) (bq BK210.out)) : gb215 ≠ gb210)); replace BK210 := Aside0.mk (blk_below (g := gb210) (o := .cells #[.int .i64 0, .string (⟨#[]⟩ : ByteArray)] 27 (0, 0)) (bq BK210.out) hb); clear hb hbox hg; have hnb9 := NB215_210.out; have hnc9 := NB210_215.out; have hcz10_0 : w8.cell? ⟨gb215, 0, none⟩ = some (.string (⟨#[]⟩ : ByteArray)) := (blk_cell BK215.out 0).trans rfl; have hcz10_1 : w8.cell? ⟨gb215, 1, none⟩ = some (.int .i64 0) := (blk_cell BK215.out 1).trans rfl; have hfz10_0 := blk_frozen BK215.out 0; have hfz10_1 := blk_frozen BK215.out 1) | ((with_reducible refine gate_callee (f := 79) rfl ?_); refine goesL_ (some 26) rfl rfl Try.func79 (by kernel_rfl) rfl #[.agg #[.string t212, .int .i64 t213]] rfl eq_ ?_; (with_reducible refine (primitive_form_size.calls t212 t213 t216 _ A4.out).mono ?_); rintro e w11 ⟨rfl, hb⟩; refine ⟨_, rfl, ?_⟩; replace BK210 := Aside0.mk (blk_below (g := gb210) (o := .cells #[.int .i64 0, .string (⟨#[]⟩ : ByteArray)] 27 (0, 0)) (by (with_reducible repeat (first | refine blk_drewN ?_ _ | refine blk_drew ?_ | refine blk_alloc ?_ _)); refine blk_far ?_ NB210_215.out _; (with_reducible repeat (first | refine blk_drewN ?_ _ | refine blk_drew ?_ | refine blk_alloc ?_ _)); refine blk_far ?_ NB210_215.out _; (with_reducible repeat (first | refine blk_drewN ?_ _ | refine blk_drew ?_ | refine blk_alloc ?_ _)); exact BK210.out) hb); replace BK215 := Aside0.mk (blk_below (g := gb215) (o := .cells #[.string t212, .int .i64 t213] 83 (0, 0)) (by (with_reducible repeat (first | refine blk_drewN ?_ _ | refine blk_drew ?_ | refine blk_alloc ?_ _)); refine blk_put (cs := #[.string t212, .int .i64 0]) ?_ 1 _ rfl; (with_reducible repeat (first | refine blk_drewN ?_ _ | refine blk_drew ?_ | refine blk_alloc ?_ _)); refine blk_put (cs := #[.string (⟨#[]⟩ : ByteArray), .int .i64 0]) ?_ 0 _ rfl; (with_reducible repeat (first | refine blk_drewN ?_ _ | refine blk_drew ?_ | refine blk_alloc ?_ _)); exact BK215.out) hb); replace HB := Aside0.mk (below_step (hq2 HB.out GE210.out GE215.out) hb); (try clear hb); have hcz12_0 : w11.cell? ⟨gb210, 0, none⟩ = some (.int .i64 0) := (blk_cell BK210.out 0).trans rfl; have hcz12_1 : w11.cell? ⟨gb210, 1, none⟩ = some (.string (⟨#[]⟩ : ByteArray)) := (blk_cell BK210.out 1).trans rfl; have hfz12_0 := blk_frozen BK210.out 0; have hfz12_1 := blk_frozen BK210.out 1))
   refine bodyPost_ret (results_ctt rfl _ _ gb210 27 #[.int .i64 0, .string (⟨#[]⟩ : ByteArray)] (0, 0) _ rfl (by (with_reducible repeat (first | refine blk_drewN ?_ _ | refine blk_drew ?_ | refine blk_alloc ?_ _)); refine blk_put (cs := #[.int .i64 0, .string (⟨#[]⟩ : ByteArray)]) ?_ 1 _ rfl; (with_reducible repeat (first | refine blk_drewN ?_ _ | refine blk_drew ?_ | refine blk_alloc ?_ _)); refine blk_put (cs := #[.int .i64 0, .string (⟨#[]⟩ : ByteArray)]) ?_ 0 _ rfl; (with_reducible repeat (first | refine blk_drewN ?_ _ | refine blk_drew ?_ | refine blk_alloc ?_ _)); exact BK210.out) Try.underlying27 rfl (by kernel_rfl)) rfl ?_
   exact ⟨rq_, hq2 HB.out GE210.out GE215.out⟩
  ·rw [if_neg c5] at H
   have c5b0 := decide_eq_false c5
   clear c5
   obtain ⟨t217, A13, H⟩ := bindS H
   obtain ⟨t218, A14, H⟩ := bindS H
   obtain ⟨t219, A15, H⟩ := bindS H
   obtain ⟨t220, A16, H⟩ := bindS H
   obtain ⟨t221, A17, H⟩ := bindS H
   by_cases c18 : 0 ≤ (t212.size : Int)
   ·rw [if_pos c18] at H
    have c18b0 := eq_true c18
    have c18b1 := decide_eq_true c18
    clear c18
    by_cases c19 : (t212.size : Int) ≤ t221
    ·rw [if_pos c19] at H
     have c19b0 := eq_true c19
     have c19b1 := decide_eq_true c19
     clear c19
     by_cases c20 : t221 ≤ (a0.size : Int)
     ·rw [if_pos c20] at H
      have c20b0 := eq_true c20
      have c20b1 := decide_eq_true c20
      clear c20
      by_cases c21 : t220.size + (a0.extract ((t212.size : Int) : Int).toNat (t221 : Int).toNat).size ≤ 9223372036854775807
      ·rw [if_pos c21] at H
       have c21b0 := eq_true c21
       have c21b1 := decide_eq_true c21
       try have c21b2 : (9223372036854775807 < t220.size + (a0.extract ((t212.size : Int) : Int).toNat (t221 : Int).toNat).size) = False := eq_false (Nat.not_lt.2 c21)
       have c21b3 : (9223372036854775807 < t220.size + (t221.toNat - t212.size)) = False := eq_false (by have h_ := c21; simp only [ByteArray.size_extract] at h_; have l0_ : (t221 : Int) ≤ (a0.size : Int) := of_eq_true (by assumption); omega)
       obtain ⟨⟨t222, t223⟩, A22, H⟩ := bindS H
       try dsimp only at H
       obtain ⟨⟨t224, t225⟩, A23, H⟩ := bindS H
       try dsimp only at H
       by_cases c24 : t223 = 0
       ·rw [if_pos c24] at H
        have c24b0 : (t223 == 0) = true := beq_iff_eq.mpr c24
        have c24b1 : (t223 != 0) = false := bne_eq_false_iff_eq.mpr c24
        clear c24
        by_cases c25 : t225 = true
        ·subst c25
         rw [if_pos rfl] at H
         obtain ⟨t226, A26, H⟩ := bindS H
         simp only [Option.some.injEq, Prod.mk.injEq] at H
         obtain ⟨rfl, rfl, rfl, rfl⟩ := H
         go_enter Try.func70, Try.ntmps70
         try go_wp2_with (first | ((with_reducible refine gate_dst (N := 2) rfl ?_); refine box_event ?hg (N := 2) ?hd (cs := #[.int .i64 0, .string (⟨#[]⟩ : ByteArray)]) (t := 27) ?hr ?_; (case hd => rfl); (case hg => rfl); (case hr => first | (go_simp; done) | (go_simp; rfl)); intro gb210 hg w27 hbox hb; have BK210 := Aside0.mk (hbox); have GW210 := Aside0.mk ((by rw [hg]; exact (below_size (hq HB.out)) : w.heap.size ≤ gb210)); have GE210 := Aside0.mk ((by rw [hg]; exact (below_size (hq HB.out)) : w.heap.size ≤ gb210)); replace HB := Aside0.mk (below_step (hq HB.out) hb); clear hb hbox hg) | ((with_reducible refine gate_callee (f := 78) rfl ?_); refine goesL_ (some 14) rfl rfl Try.func78 (by kernel_rfl) rfl #[.string a0] rfl eq_ ?_; (with_reducible refine (primitive_begins.calls a0 t211 t212 t213 true _ A2.out).mono ?_); rintro e w28 ⟨rfl, hb⟩; refine ⟨_, rfl, ?_⟩; replace BK210 := Aside0.mk (blk_below (g := gb210) (o := .cells #[.int .i64 0, .string (⟨#[]⟩ : ByteArray)] 27 (0, 0)) (bq BK210.out) hb); replace HB := Aside0.mk (below_step (hq1 HB.out GE210.out) hb); (try clear hb)) | ((with_reducible refine gate_dst (N := 6) rfl ?_); refine box_event ?hg (N := 6) ?hd (cs := #[.string (⟨#[]⟩ : ByteArray), .int .i64 0]) (t := 83) ?hr ?_; (case hd => rfl); (case hg => rfl); (case hr => first | (go_simp; done) | (go_simp; rfl)); intro gb215 hg w29 hbox hb; have BK215 := Aside0.mk (hbox); have GW215 := Aside0.mk ((by rw [hg]; exact (below_size (hq1 HB.out GE210.out)) : w.heap.size ≤ gb215)); have GE215 := Aside0.mk ((by rw [hg]; exact (below_size (hq1 HB.out GE210.out)) : w.heap.size ≤ gb215)); replace HB := Aside0.mk (below_step (hq1 HB.out GE210.out) hb); have NB210_215 := Aside0.mk ((by rw [hg]; exact Nat.ne_of_lt (blk_lt (g := gb210) (o := .cells #[.int .i64 0, .string (⟨#[]⟩ : ByteArray)] 27 (0, 0)) (bq BK210.out)) : gb210 ≠ gb215)); have NB215_210 := Aside0.mk ((by rw [hg]; exact Nat.ne_of_gt (blk_lt (g := gb210) (o := .cells #[.int .i64 0, .string (⟨#[]⟩ : ByteArray)] 27 (0, 0)) (bq BK210.out)) : gb215 ≠ gb210)); replace BK210 := Aside0.mk (blk_below (g := gb210) (o := .cells #[.int .i64 0, .string (⟨#[]⟩ : ByteArray)] 27 (0, 0)) (bq BK210.out) hb); clear hb hbox hg; have hnb30 := NB215_210.out; have hnc30 := NB210_215.out; have hcz31_0 : w29.cell? ⟨gb215, 0, none⟩ = some (.string (⟨#[]⟩ : ByteArray)) := (blk_cell BK215.out 0).trans rfl; have hcz31_1 : w29.cell? ⟨gb215, 1, none⟩ = some (.int .i64 0) := (blk_cell BK215.out 1).trans rfl; have hfz31_0 := blk_frozen BK215.out 0; have hfz31_1 := blk_frozen BK215.out 1) | ((with_reducible refine gate_callee (f := 79) rfl ?_); refine goesL_ (some 26) rfl rfl Try.func79 (by kernel_rfl) rfl #[.agg #[.string t212, .int .i64 t213]] rfl eq_ ?_; (with_reducible refine (primitive_form_size.calls t212 t213 t216 _ A4.out).mono ?_); rintro e w32 ⟨rfl, hb⟩; refine ⟨_, rfl, ?_⟩; replace BK210 := Aside0.mk (blk_below (g := gb210) (o := .cells #[.int .i64 0, .string (⟨#[]⟩ : ByteArray)] 27 (0, 0)) (by (with_reducible repeat (first | refine blk_drewN ?_ _ | refine blk_drew ?_ | refine blk_alloc ?_ _)); refine blk_far ?_ NB210_215.out _; (with_reducible repeat (first | refine blk_drewN ?_ _ | refine blk_drew ?_ | refine blk_alloc ?_ _)); refine blk_far ?_ NB210_215.out _; (with_reducible repeat (first | refine blk_drewN ?_ _ | refine blk_drew ?_ | refine blk_alloc ?_ _)); exact BK210.out) hb); replace BK215 := Aside0.mk (blk_below (g := gb215) (o := .cells #[.string t212, .int .i64 t213] 83 (0, 0)) (by (with_reducible repeat (first | refine blk_drewN ?_ _ | refine blk_drew ?_ | refine blk_alloc ?_ _)); refine blk_put (cs := #[.string t212, .int .i64 0]) ?_ 1 _ rfl; (with_reducible repeat (first | refine blk_drewN ?_ _ | refine blk_drew ?_ | refine blk_alloc ?_ _)); refine blk_put (cs := #[.string (⟨#[]⟩ : ByteArray), .int .i64 0]) ?_ 0 _ rfl; (with_reducible repeat (first | refine blk_drewN ?_ _ | refine blk_drew ?_ | refine blk_alloc ?_ _)); exact BK215.out) hb); replace HB := Aside0.mk (below_step (hq2 HB.out GE210.out GE215.out) hb); (try clear hb); have hcz33_0 : w32.cell? ⟨gb215, 0, none⟩ = some (.string t212) := (blk_cell BK215.out 0).trans rfl; have hcz33_1 : w32.cell? ⟨gb215, 1, none⟩ = some (.int .i64 t213) := (blk_cell BK215.out 1).trans rfl; have hfz33_0 := blk_frozen BK215.out 0; have hfz33_1 := blk_frozen BK215.out 1) | ((with_reducible refine gate_callee (f := 54) rfl ?_); refine goesL_ (some 30) rfl rfl Try.func54 (by kernel_rfl) rfl #[.agg #[.string t212, .int .i64 t213]] rfl eq_ ?_; (with_reducible refine (primitive_form_lead.calls t212 t213 t217 _ A13.out).mono ?_); rintro e w34 ⟨rfl, hb⟩; refine ⟨_, rfl, ?_⟩; replace BK210 := Aside0.mk (blk_below (g := gb210) (o := .cells #[.int .i64 0, .string (⟨#[]⟩ : ByteArray)] 27 (0, 0)) (bq BK210.out) hb); replace BK215 := Aside0.mk (blk_below (g := gb215) (o := .cells #[.string t212, .int .i64 t213] 83 (0, 0)) (bq BK215.out) hb); replace HB := Aside0.mk (below_step (hq2 HB.out GE210.out GE215.out) hb); (try clear hb)) | ((with_reducible refine gate_callee (f := 53) rfl ?_); refine goesL_ (some 31) rfl rfl Try.func53 (by kernel_rfl) rfl #[.string (⟨#[0]⟩ : ByteArray), .int .i64 t217] rfl eq_ ?_; (with_reducible refine (strings_Repeat.calls (⟨#[0]⟩ : ByteArray) t217 t218 _ A14.out).mono ?_); rintro e w35 ⟨rfl, hb⟩; refine ⟨_, rfl, ?_⟩; replace BK210 := Aside0.mk (blk_below (g := gb210) (o := .cells #[.int .i64 0, .string (⟨#[]⟩ : ByteArray)] 27 (0, 0)) (bq BK210.out) hb); replace BK215 := Aside0.mk (blk_below (g := gb215) (o := .cells #[.string t212, .int .i64 t213] 83 (0, 0)) (bq BK215.out) hb); replace HB := Aside0.mk (below_step (hq2 HB.out GE210.out GE215.out) hb); (try clear hb)))
         replace BK210 := Aside0.mk (blk_drew BK210.out)
         replace BK215 := Aside0.mk (blk_drew BK215.out)
         replace HB := Aside0.mk (below_drew1 HB.out)
         refine start_ (n := 17) (S := fun w' => w'.cell? ⟨gb215, 0, none⟩ = some (.string t212) ∧ w'.cell? ⟨gb215, 1, none⟩ = some (.int .i64 t213)) (ds := []) #[false,false,false,false,false,false,false,false,false,false,false,false,false,false,false,false,false] (by kernel_rfl) rfl rfl ⟨(blk_cell BK215.out 0).trans rfl, (blk_cell BK215.out 1).trans rfl⟩ (fun hHeld => ?_); refine with_tabW primitive_Decode.tab7 primitive_Decode.bits7 (fun HT_ HW_ => ?_)
         generalize w35.drew = w36 at BK210 BK215 HB hHeld ⊢
         refine pure_ (i := 3) (N := some 36) (v := ?_) (a' := ?_) #[false,false,false,true,false,false,false,false,false,false,false,false,false,false,false,false,false] rfl rfl (any_of HT_.out (by kernel_rfl)) (fun _ _ _ h => h) (Or.inl ⟨by rfl, pv⟩) pp ?_
         refine pure_ (i := 4) (N := some 37) (v := ?_) (a' := ?_) #[false,false,false,true,true,false,false,false,false,false,false,false,false,false,false,false,false] rfl rfl (any_of HT_.out (by kernel_rfl)) (fun _ _ _ h => h) (Or.inl ⟨by rfl, pv⟩) pp ?_
         refine take_ (i := 0) (N := some 33) (v := ?_) (a' := ?_) #[true,false,false,true,true,false,false,false,false,false,false,false,false,false,false,false,false] rfl rfl (take_ofW HT_.out HW_.out (by kernel_rfl)) (fun _ _ _ h => h) (Or.inl ⟨by rfl, by rintro w' ⟨s0, s1⟩; go_simp; with_reducible rfl⟩) hHeld pp ?_
         refine take_ (i := 5) (N := some 38) (v := ?_) (a' := ?_) #[true,false,false,true,true,true,false,false,false,false,false,false,false,false,false,false,false] rfl rfl (take_ofW HT_.out HW_.out (by kernel_rfl)) (fun _ _ _ h => h) (Or.inl ⟨by rfl, by rintro w' ⟨s0, s1⟩; go_simp; with_reducible rfl⟩) hHeld pp ?_
         refine pure_ (i := 6) (N := some 39) (v := ?_) (a' := ?_) #[true,false,false,true,true,true,true,false,false,false,false,false,false,false,false,false,false] rfl rfl (any_of HT_.out (by kernel_rfl)) (fun _ _ _ h => h) (Or.inl ⟨by rfl, pv⟩) pp ?_
         refine take_ (i := 7) (N := some 40) (v := ?_) (a' := ?_) #[true,false,false,true,true,true,true,true,false,false,false,false,false,false,false,false,false] rfl rfl (take_ofW HT_.out HW_.out (by kernel_rfl)) (fun _ _ _ h => h) (Or.inl ⟨by rfl, by rintro w' ⟨s0, s1⟩; go_simp; with_reducible rfl⟩) hHeld pp ?_
         refine one_ (i := 1) (N := some 34) #[true,true,false,true,true,true,true,true,false,false,false,false,false,false,false,false,false] rfl rfl (one_of HT_.out (by kernel_rfl)) (by decide) (fun K hK => ?_)
         refine goes_ Try.func54 (by kernel_rfl) rfl #[.agg #[.string t212, .int .i64 t213]] (by rfl) rfl rfl eq_ ?_
         with_reducible refine (primitive_form_lead.calls t212 t213 t219 _ A15.out).mono ?_
         rintro e w37 ⟨rfl, hb⟩
         refine ⟨_, rfl, ?_⟩
         replace BK210 := Aside0.mk (blk_below (g := gb210) (o := .cells #[.int .i64 0, .string (⟨#[]⟩ : ByteArray)] 27 (0, 0)) (bq BK210.out) hb)
         replace BK215 := Aside0.mk (blk_below (g := gb215) (o := .cells #[.string t212, .int .i64 t213] 83 (0, 0)) (bq BK215.out) hb)
         replace HB := Aside0.mk (below_step (hq2 HB.out GE210.out GE215.out) hb)
         (try clear hb)
         refine hK.out _ _ ⟨(blk_cell BK215.out 0).trans rfl, (blk_cell BK215.out 1).trans rfl⟩ (fun hHeld => ?_)
         clear hK K
         refine norm_ (a' := ?_) (show Act.put _ (some 34) _ = _ from pp) ?_
         refine one_ (i := 2) (N := some 35) #[true,true,true,true,true,true,true,true,false,false,false,false,false,false,false,false,false] rfl rfl (one_of HT_.out (by kernel_rfl)) (by decide) (fun K hK => ?_)
         refine goes_ Try.func53 (by kernel_rfl) rfl #[.string (⟨#[65]⟩ : ByteArray), .int .i64 t219] (by rfl) rfl rfl eq_ ?_
         with_reducible refine (strings_Repeat.calls (⟨#[65]⟩ : ByteArray) t219 t220 _ A16.out).mono ?_
         rintro e w38 ⟨rfl, hb⟩
         refine ⟨_, rfl, ?_⟩
         replace BK210 := Aside0.mk (blk_below (g := gb210) (o := .cells #[.int .i64 0, .string (⟨#[]⟩ : ByteArray)] 27 (0, 0)) (bq BK210.out) hb)
         replace BK215 := Aside0.mk (blk_below (g := gb215) (o := .cells #[.string t212, .int .i64 t213] 83 (0, 0)) (bq BK215.out) hb)
         replace HB := Aside0.mk (below_step (hq2 HB.out GE210.out GE215.out) hb)
         (try clear hb)
         refine hK.out _ _ ⟨(blk_cell BK215.out 0).trans rfl, (blk_cell BK215.out 1).trans rfl⟩ (fun hHeld => ?_)
         clear hK K
         refine norm_ (a' := ?_) (show Act.put _ (some 35) _ = _ from pp) ?_
         refine one_ (i := 8) (N := some 41) #[true,true,true,true,true,true,true,true,true,false,false,false,false,false,false,false,false] rfl rfl (one_of HT_.out (by kernel_rfl)) (by decide) (fun K hK => ?_)
         refine goes_ Try.func79 (by kernel_rfl) rfl #[.agg #[.string t212, .int .i64 t213]] (by rfl) rfl rfl eq_ ?_
         with_reducible refine (primitive_form_size.calls t212 t213 t221 _ A17.out).mono ?_
         rintro e w39 ⟨rfl, hb⟩
         refine ⟨_, rfl, ?_⟩
         replace BK210 := Aside0.mk (blk_below (g := gb210) (o := .cells #[.int .i64 0, .string (⟨#[]⟩ : ByteArray)] 27 (0, 0)) (bq BK210.out) hb)
         replace BK215 := Aside0.mk (blk_below (g := gb215) (o := .cells #[.string t212, .int .i64 t213] 83 (0, 0)) (bq BK215.out) hb)
         replace HB := Aside0.mk (below_step (hq2 HB.out GE210.out GE215.out) hb)
         (try clear hb)
         refine hK.out _ _ ⟨(blk_cell BK215.out 0).trans rfl, (blk_cell BK215.out 1).trans rfl⟩ (fun hHeld => ?_)
         clear hK K
         refine norm_ (a' := ?_) (show Act.put _ (some 41) _ = _ from pp) ?_
         refine pure_ (i := 9) (N := some 42) (v := ?_) (a' := ?_) #[true,true,true,true,true,true,true,true,true,true,false,false,false,false,false,false,false] rfl rfl (any_of HT_.out (by kernel_rfl)) (fun _ _ _ h => h) (Or.inl ⟨by rfl, pv⟩) pp ?_
         refine pure_ (i := 10) (N := some 43) (v := ?_) (a' := ?_) #[true,true,true,true,true,true,true,true,true,true,true,false,false,false,false,false,false] rfl rfl (any_of HT_.out (by kernel_rfl)) (fun _ _ _ h => h) (Or.inl ⟨by rfl, pv⟩) pp ?_
         refine one_ (i := 11) (N := some 44) #[true,true,true,true,true,true,true,true,true,true,true,true,false,false,false,false,false] rfl rfl (one_of HT_.out (by kernel_rfl)) (by decide) (fun K hK => ?_)
         refine goes_ Try.func62 (by kernel_rfl) rfl #[.string (t220 ++ (a0.extract ((t212.size : Int) : Int).toNat (t221 : Int).toNat))] (by rfl) rfl rfl eq_ ?_
         with_reducible refine (base64_Decode.calls k (t220 ++ (a0.extract ((t212.size : Int) : Int).toNat (t221 : Int).toNat)) t222 t223 _ A22.out).mono ?_
         rintro e w40 ⟨rfl, hb⟩
         refine ⟨_, rfl, ?_⟩
         replace BK210 := Aside0.mk (blk_below (g := gb210) (o := .cells #[.int .i64 0, .string (⟨#[]⟩ : ByteArray)] 27 (0, 0)) (bq BK210.out) hb)
         replace BK215 := Aside0.mk (blk_below (g := gb215) (o := .cells #[.string t212, .int .i64 t213] 83 (0, 0)) (bq BK215.out) hb)
         replace HB := Aside0.mk (below_step (hq2 HB.out GE210.out GE215.out) hb)
         (try clear hb)
         refine hK.out _ _ ⟨(blk_cell BK215.out 0).trans rfl, (blk_cell BK215.out 1).trans rfl⟩ (fun hHeld => ?_)
         clear hK K
         refine norm_ (a' := ?_) (show Act.put _ (some 44) _ = _ from pp) ?_
         refine pure_ (i := 12) (N := some 32) (v := ?_) (a' := ?_) #[true,true,true,true,true,true,true,true,true,true,true,true,true,false,false,false,false] rfl rfl (any_of HT_.out (by kernel_rfl)) (fun _ _ _ h => h) (Or.inl ⟨by rfl, pv⟩) pp ?_
         refine pure_ (i := 13) (N := some 45) (v := ?_) (a' := ?_) #[true,true,true,true,true,true,true,true,true,true,true,true,true,true,false,false,false] rfl rfl (any_of HT_.out (by kernel_rfl)) (fun _ _ _ h => h) (Or.inl ⟨by rfl, pv⟩) pp ?_
         refine pure_ (i := 14) (N := some 46) (v := ?_) (a' := ?_) #[true,true,true,true,true,true,true,true,true,true,true,true,true,true,true,false,false] rfl rfl (any_of HT_.out (by kernel_rfl)) (fun _ _ _ h => h) (Or.inl ⟨by rfl, pv⟩) pp ?_
         refine pure_ (i := 15) (N := some 9) (v := ?_) (a' := ?_) #[true,true,true,true,true,true,true,true,true,true,true,true,true,true,true,true,false] rfl rfl (any_of HT_.out (by kernel_rfl)) (fun _ _ _ h => h) (Or.inl ⟨by rfl, pv⟩) pp ?_
         refine pure_ (i := 16) (N := some 10) (v := ?_) (a' := ?_) #[true,true,true,true,true,true,true,true,true,true,true,true,true,true,true,true,true] rfl rfl (any_of HT_.out (by kernel_rfl)) (fun _ _ _ h => h) (Or.inl ⟨by rfl, pv⟩) pp ?_
         refine done_ (done_of HT_.out (by kernel_rfl)) ?_
         try go_wp2_with (first | ((with_reducible refine gate_callee (f := 80) rfl ?_); refine goesL_ (some 50) rfl rfl Try.func80 (by kernel_rfl) rfl #[.string t222, .string t218] rfl eq_ ?_; (with_reducible refine (strings_CutPrefix.calls t222 t218 t224 true _ A23.out).mono ?_); rintro e w' ⟨rfl, ⟨nd, rfl⟩⟩; refine ⟨_, rfl, ?_⟩; (try (rw [drewN_self w40]; generalize hq_ : World.drewN w40 _ = w40; have n0_ : Aside0 (w40.heap[gb210]? = some (.cells #[.int .i64 0, .string (⟨#[]⟩ : ByteArray)] 27 (0, 0))) := ⟨by rw [← hq_]; exact (bq BK210.out)⟩; have n1_ : Aside0 (w40.heap[gb215]? = some (.cells #[.string t212, .int .i64 t213] 83 (0, 0))) := ⟨by rw [← hq_]; exact (bq BK215.out)⟩; have n2_ : Aside0 (Below w.heap.size w w40) := ⟨by rw [← hq_]; exact (hq2 HB.out GE210.out GE215.out)⟩; clear BK210 BK215 HB hq_; have BK210 := n0_; have BK215 := n1_; have HB := n2_; clear n0_ n1_ n2_)); have hcz41_0 : w40.cell? ⟨gb215, 0, none⟩ = some (.string t212) := (blk_cell BK215.out 0).trans rfl; have hcz41_1 : w40.cell? ⟨gb215, 1, none⟩ = some (.int .i64 t213) := (blk_cell BK215.out 1).trans rfl; have hfz41_0 := blk_frozen BK215.out 0; have hfz41_1 := blk_frozen BK215.out 1) | ((with_reducible refine gate_callee (f := 79) rfl ?_); refine goesL_ (some 64) rfl rfl Try.func79 (by kernel_rfl) rfl #[.agg #[.string t212, .int .i64 t213]] rfl eq_ ?_; (with_reducible refine (primitive_form_size.calls t212 t213 t226 _ A26.out).mono ?_); rintro e w42 ⟨rfl, hb⟩; refine ⟨_, rfl, ?_⟩; replace BK210 := Aside0.mk (blk_below (g := gb210) (o := .cells #[.int .i64 0, .string (⟨#[]⟩ : ByteArray)] 27 (0, 0)) (bq BK210.out) hb); replace BK215 := Aside0.mk (blk_below (g := gb215) (o := .cells #[.string t212, .int .i64 t213] 83 (0, 0)) (bq BK215.out) hb); replace HB := Aside0.mk (below_step (hq2 HB.out GE210.out GE215.out) hb); (try clear hb); have hcz43_0 : w42.cell? ⟨gb210, 0, none⟩ = some (.int .i64 0) := (blk_cell BK210.out 0).trans rfl; have hcz43_1 : w42.cell? ⟨gb210, 1, none⟩ = some (.string (⟨#[]⟩ : ByteArray)) := (blk_cell BK210.out 1).trans rfl; have hfz43_0 := blk_frozen BK210.out 0; have hfz43_1 := blk_frozen BK210.out 1))
         refine bodyPost_ret (results_ctt rfl _ _ gb210 27 #[.int .i64 t211, .string t224] (0, 0) _ rfl (by (with_reducible repeat (first | refine blk_drewN ?_ _ | refine blk_drew ?_ | refine blk_alloc ?_ _)); refine blk_put (cs := #[.int .i64 t211, .string (⟨#[]⟩ : ByteArray)]) ?_ 1 _ rfl; (with_reducible repeat (first | refine blk_drewN ?_ _ | refine blk_drew ?_ | refine blk_alloc ?_ _)); refine blk_put (cs := #[.int .i64 0, .string (⟨#[]⟩ : ByteArray)]) ?_ 0 _ rfl; (with_reducible repeat (first | refine blk_drewN ?_ _ | refine blk_drew ?_ | refine blk_alloc ?_ _)); exact BK210.out) Try.underlying27 rfl (by kernel_rfl)) rfl ?_
         exact ⟨rq_, hq2 HB.out GE210.out GE215.out⟩
        ·replace c25 := Bool.eq_false_iff.mpr c25
         subst c25
         rw [if_neg (show ¬ (false = true) by decide)] at H
         simp only [Option.some.injEq, Prod.mk.injEq] at H
         obtain ⟨rfl, rfl, rfl, rfl⟩ := H
         go_enter Try.func70, Try.ntmps70
         try go_wp2_with (first | ((with_reducible refine gate_dst (N := 2) rfl ?_); refine box_event ?hg (N := 2) ?hd (cs := #[.int .i64 0, .string (⟨#[]⟩ : ByteArray)]) (t := 27) ?hr ?_; (case hd => rfl); (case hg => rfl); (case hr => first | (go_simp; done) | (go_simp; rfl)); intro gb210 hg w44 hbox hb; have BK210 := Aside0.mk (hbox); have GW210 := Aside0.mk ((by rw [hg]; exact (below_size (hq HB.out)) : w.heap.size ≤ gb210)); have GE210 := Aside0.mk ((by rw [hg]; exact (below_size (hq HB.out)) : w.heap.size ≤ gb210)); replace HB := Aside0.mk (below_step (hq HB.out) hb); clear hb hbox hg) | ((with_reducible refine gate_callee (f := 78) rfl ?_); refine goesL_ (some 14) rfl rfl Try.func78 (by kernel_rfl) rfl #[.string a0] rfl eq_ ?_; (with_reducible refine (primitive_begins.calls a0 t211 t212 t213 true _ A2.out).mono ?_); rintro e w45 ⟨rfl, hb⟩; refine ⟨_, rfl, ?_⟩; replace BK210 := Aside0.mk (blk_below (g := gb210) (o := .cells #[.int .i64 0, .string (⟨#[]⟩ : ByteArray)] 27 (0, 0)) (bq BK210.out) hb); replace HB := Aside0.mk (below_step (hq1 HB.out GE210.out) hb); (try clear hb)) | ((with_reducible refine gate_dst (N := 6) rfl ?_); refine box_event ?hg (N := 6) ?hd (cs := #[.string (⟨#[]⟩ : ByteArray), .int .i64 0]) (t := 83) ?hr ?_; (case hd => rfl); (case hg => rfl); (case hr => first | (go_simp; done) | (go_simp; rfl)); intro gb215 hg w46 hbox hb; have BK215 := Aside0.mk (hbox); have GW215 := Aside0.mk ((by rw [hg]; exact (below_size (hq1 HB.out GE210.out)) : w.heap.size ≤ gb215)); have GE215 := Aside0.mk ((by rw [hg]; exact (below_size (hq1 HB.out GE210.out)) : w.heap.size ≤ gb215)); replace HB := Aside0.mk (below_step (hq1 HB.out GE210.out) hb); have NB210_215 := Aside0.mk ((by rw [hg]; exact Nat.ne_of_lt (blk_lt (g := gb210) (o := .cells #[.int .i64 0, .string (⟨#[]⟩ : ByteArray)] 27 (0, 0)) (bq BK210.out)) : gb210 ≠ gb215)); have NB215_210 := Aside0.mk ((by rw [hg]; exact Nat.ne_of_gt (blk_lt (g := gb210) (o := .cells #[.int .i64 0, .string (⟨#[]⟩ : ByteArray)] 27 (0, 0)) (bq BK210.out)) : gb215 ≠ gb210)); replace BK210 := Aside0.mk (blk_below (g := gb210) (o := .cells #[.int .i64 0, .string (⟨#[]⟩ : ByteArray)] 27 (0, 0)) (bq BK210.out) hb); clear hb hbox hg; have hnb47 := NB215_210.out; have hnc47 := NB210_215.out; have hcz48_0 : w46.cell? ⟨gb215, 0, none⟩ = some (.string (⟨#[]⟩ : ByteArray)) := (blk_cell BK215.out 0).trans rfl; have hcz48_1 : w46.cell? ⟨gb215, 1, none⟩ = some (.int .i64 0) := (blk_cell BK215.out 1).trans rfl; have hfz48_0 := blk_frozen BK215.out 0; have hfz48_1 := blk_frozen BK215.out 1) | ((with_reducible refine gate_callee (f := 79) rfl ?_); refine goesL_ (some 26) rfl rfl Try.func79 (by kernel_rfl) rfl #[.agg #[.string t212, .int .i64 t213]] rfl eq_ ?_; (with_reducible refine (primitive_form_size.calls t212 t213 t216 _ A4.out).mono ?_); rintro e w49 ⟨rfl, hb⟩; refine ⟨_, rfl, ?_⟩; replace BK210 := Aside0.mk (blk_below (g := gb210) (o := .cells #[.int .i64 0, .string (⟨#[]⟩ : ByteArray)] 27 (0, 0)) (by (with_reducible repeat (first | refine blk_drewN ?_ _ | refine blk_drew ?_ | refine blk_alloc ?_ _)); refine blk_far ?_ NB210_215.out _; (with_reducible repeat (first | refine blk_drewN ?_ _ | refine blk_drew ?_ | refine blk_alloc ?_ _)); refine blk_far ?_ NB210_215.out _; (with_reducible repeat (first | refine blk_drewN ?_ _ | refine blk_drew ?_ | refine blk_alloc ?_ _)); exact BK210.out) hb); replace BK215 := Aside0.mk (blk_below (g := gb215) (o := .cells #[.string t212, .int .i64 t213] 83 (0, 0)) (by (with_reducible repeat (first | refine blk_drewN ?_ _ | refine blk_drew ?_ | refine blk_alloc ?_ _)); refine blk_put (cs := #[.string t212, .int .i64 0]) ?_ 1 _ rfl; (with_reducible repeat (first | refine blk_drewN ?_ _ | refine blk_drew ?_ | refine blk_alloc ?_ _)); refine blk_put (cs := #[.string (⟨#[]⟩ : ByteArray), .int .i64 0]) ?_ 0 _ rfl; (with_reducible repeat (first | refine blk_drewN ?_ _ | refine blk_drew ?_ | refine blk_alloc ?_ _)); exact BK215.out) hb); replace HB := Aside0.mk (below_step (hq2 HB.out GE210.out GE215.out) hb); (try clear hb); have hcz50_0 : w49.cell? ⟨gb215, 0, none⟩ = some (.string t212) := (blk_cell BK215.out 0).trans rfl; have hcz50_1 : w49.cell? ⟨gb215, 1, none⟩ = some (.int .i64 t213) := (blk_cell BK215.out 1).trans rfl; have hfz50_0 := blk_frozen BK215.out 0; have hfz50_1 := blk_frozen BK215.out 1) | ((with_reducible refine gate_callee (f := 54) rfl ?_); refine goesL_ (some 30) rfl rfl Try.func54 (by kernel_rfl) rfl #[.agg #[.string t212, .int .i64 t213]] rfl eq_ ?_; (with_reducible refine (primitive_form_lead.calls t212 t213 t217 _ A13.out).mono ?_); rintro e w51 ⟨rfl, hb⟩; refine ⟨_, rfl, ?_⟩; replace BK210 := Aside0.mk (blk_below (g := gb210) (o := .cells #[.int .i64 0, .string (⟨#[]⟩ : ByteArray)] 27 (0, 0)) (bq BK210.out) hb); replace BK215 := Aside0.mk (blk_below (g := gb215) (o := .cells #[.string t212, .int .i64 t213] 83 (0, 0)) (bq BK215.out) hb); replace HB := Aside0.mk (below_step (hq2 HB.out GE210.out GE215.out) hb); (try clear hb)) | ((with_reducible refine gate_callee (f := 53) rfl ?_); refine goesL_ (some 31) rfl rfl Try.func53 (by kernel_rfl) rfl #[.string (⟨#[0]⟩ : ByteArray), .int .i64 t217] rfl eq_ ?_; (with_reducible refine (strings_Repeat.calls (⟨#[0]⟩ : ByteArray) t217 t218 _ A14.out).mono ?_); rintro e w52 ⟨rfl, hb⟩; refine ⟨_, rfl, ?_⟩; replace BK210 := Aside0.mk (blk_below (g := gb210) (o := .cells #[.int .i64 0, .string (⟨#[]⟩ : ByteArray)] 27 (0, 0)) (bq BK210.out) hb); replace BK215 := Aside0.mk (blk_below (g := gb215) (o := .cells #[.string t212, .int .i64 t213] 83 (0, 0)) (bq BK215.out) hb); replace HB := Aside0.mk (below_step (hq2 HB.out GE210.out GE215.out) hb); (try clear hb)))
         replace BK210 := Aside0.mk (blk_drew BK210.out)
         replace BK215 := Aside0.mk (blk_drew BK215.out)
         replace HB := Aside0.mk (below_drew1 HB.out)
         refine start_ (n := 17) (S := fun w' => w'.cell? ⟨gb215, 0, none⟩ = some (.string t212) ∧ w'.cell? ⟨gb215, 1, none⟩ = some (.int .i64 t213)) (ds := []) #[false,false,false,false,false,false,false,false,false,false,false,false,false,false,false,false,false] (by kernel_rfl) rfl rfl ⟨(blk_cell BK215.out 0).trans rfl, (blk_cell BK215.out 1).trans rfl⟩ (fun hHeld => ?_); refine with_tabW primitive_Decode.tab7 primitive_Decode.bits7 (fun HT_ HW_ => ?_)
         generalize w52.drew = w53 at BK210 BK215 HB hHeld ⊢
         refine pure_ (i := 3) (N := some 36) (v := ?_) (a' := ?_) #[false,false,false,true,false,false,false,false,false,false,false,false,false,false,false,false,false] rfl rfl (any_of HT_.out (by kernel_rfl)) (fun _ _ _ h => h) (Or.inl ⟨by rfl, pv⟩) pp ?_
         refine pure_ (i := 4) (N := some 37) (v := ?_) (a' := ?_) #[false,false,false,true,true,false,false,false,false,false,false,false,false,false,false,false,false] rfl rfl (any_of HT_.out (by kernel_rfl)) (fun _ _ _ h => h) (Or.inl ⟨by rfl, pv⟩) pp ?_
         refine take_ (i := 0) (N := some 33) (v := ?_) (a' := ?_) #[true,false,false,true,true,false,false,false,false,false,false,false,false,false,false,false,false] rfl rfl (take_ofW HT_.out HW_.out (by kernel_rfl)) (fun _ _ _ h => h) (Or.inl ⟨by rfl, by rintro w' ⟨s0, s1⟩; go_simp; with_reducible rfl⟩) hHeld pp ?_
         refine take_ (i := 5) (N := some 38) (v := ?_) (a' := ?_) #[true,false,false,true,true,true,false,false,false,false,false,false,false,false,false,false,false] rfl rfl (take_ofW HT_.out HW_.out (by kernel_rfl)) (fun _ _ _ h => h) (Or.inl ⟨by rfl, by rintro w' ⟨s0, s1⟩; go_simp; with_reducible rfl⟩) hHeld pp ?_
         refine pure_ (i := 6) (N := some 39) (v := ?_) (a' := ?_) #[true,false,false,true,true,true,true,false,false,false,false,false,false,false,false,false,false] rfl rfl (any_of HT_.out (by kernel_rfl)) (fun _ _ _ h => h) (Or.inl ⟨by rfl, pv⟩) pp ?_
         refine take_ (i := 7) (N := some 40) (v := ?_) (a' := ?_) #[true,false,false,true,true,true,true,true,false,false,false,false,false,false,false,false,false] rfl rfl (take_ofW HT_.out HW_.out (by kernel_rfl)) (fun _ _ _ h => h) (Or.inl ⟨by rfl, by rintro w' ⟨s0, s1⟩; go_simp; with_reducible rfl⟩) hHeld pp ?_
         refine one_ (i := 1) (N := some 34) #[true,true,false,true,true,true,true,true,false,false,false,false,false,false,false,false,false] rfl rfl (one_of HT_.out (by kernel_rfl)) (by decide) (fun K hK => ?_)
         refine goes_ Try.func54 (by kernel_rfl) rfl #[.agg #[.string t212, .int .i64 t213]] (by rfl) rfl rfl eq_ ?_
         with_reducible refine (primitive_form_lead.calls t212 t213 t219 _ A15.out).mono ?_
         rintro e w54 ⟨rfl, hb⟩
         refine ⟨_, rfl, ?_⟩
         replace BK210 := Aside0.mk (blk_below (g := gb210) (o := .cells #[.int .i64 0, .string (⟨#[]⟩ : ByteArray)] 27 (0, 0)) (bq BK210.out) hb)
         replace BK215 := Aside0.mk (blk_below (g := gb215) (o := .cells #[.string t212, .int .i64 t213] 83 (0, 0)) (bq BK215.out) hb)
         replace HB := Aside0.mk (below_step (hq2 HB.out GE210.out GE215.out) hb)
         (try clear hb)
         refine hK.out _ _ ⟨(blk_cell BK215.out 0).trans rfl, (blk_cell BK215.out 1).trans rfl⟩ (fun hHeld => ?_)
         clear hK K
         refine norm_ (a' := ?_) (show Act.put _ (some 34) _ = _ from pp) ?_
         refine one_ (i := 2) (N := some 35) #[true,true,true,true,true,true,true,true,false,false,false,false,false,false,false,false,false] rfl rfl (one_of HT_.out (by kernel_rfl)) (by decide) (fun K hK => ?_)
         refine goes_ Try.func53 (by kernel_rfl) rfl #[.string (⟨#[65]⟩ : ByteArray), .int .i64 t219] (by rfl) rfl rfl eq_ ?_
         with_reducible refine (strings_Repeat.calls (⟨#[65]⟩ : ByteArray) t219 t220 _ A16.out).mono ?_
         rintro e w55 ⟨rfl, hb⟩
         refine ⟨_, rfl, ?_⟩
         replace BK210 := Aside0.mk (blk_below (g := gb210) (o := .cells #[.int .i64 0, .string (⟨#[]⟩ : ByteArray)] 27 (0, 0)) (bq BK210.out) hb)
         replace BK215 := Aside0.mk (blk_below (g := gb215) (o := .cells #[.string t212, .int .i64 t213] 83 (0, 0)) (bq BK215.out) hb)
         replace HB := Aside0.mk (below_step (hq2 HB.out GE210.out GE215.out) hb)
         (try clear hb)
         refine hK.out _ _ ⟨(blk_cell BK215.out 0).trans rfl, (blk_cell BK215.out 1).trans rfl⟩ (fun hHeld => ?_)
         clear hK K
         refine norm_ (a' := ?_) (show Act.put _ (some 35) _ = _ from pp) ?_
         refine one_ (i := 8) (N := some 41) #[true,true,true,true,true,true,true,true,true,false,false,false,false,false,false,false,false] rfl rfl (one_of HT_.out (by kernel_rfl)) (by decide) (fun K hK => ?_)
         refine goes_ Try.func79 (by kernel_rfl) rfl #[.agg #[.string t212, .int .i64 t213]] (by rfl) rfl rfl eq_ ?_
         with_reducible refine (primitive_form_size.calls t212 t213 t221 _ A17.out).mono ?_
         rintro e w56 ⟨rfl, hb⟩
         refine ⟨_, rfl, ?_⟩
         replace BK210 := Aside0.mk (blk_below (g := gb210) (o := .cells #[.int .i64 0, .string (⟨#[]⟩ : ByteArray)] 27 (0, 0)) (bq BK210.out) hb)
         replace BK215 := Aside0.mk (blk_below (g := gb215) (o := .cells #[.string t212, .int .i64 t213] 83 (0, 0)) (bq BK215.out) hb)
         replace HB := Aside0.mk (below_step (hq2 HB.out GE210.out GE215.out) hb)
         (try clear hb)
         refine hK.out _ _ ⟨(blk_cell BK215.out 0).trans rfl, (blk_cell BK215.out 1).trans rfl⟩ (fun hHeld => ?_)
         clear hK K
         refine norm_ (a' := ?_) (show Act.put _ (some 41) _ = _ from pp) ?_
         refine pure_ (i := 9) (N := some 42) (v := ?_) (a' := ?_) #[true,true,true,true,true,true,true,true,true,true,false,false,false,false,false,false,false] rfl rfl (any_of HT_.out (by kernel_rfl)) (fun _ _ _ h => h) (Or.inl ⟨by rfl, pv⟩) pp ?_
         refine pure_ (i := 10) (N := some 43) (v := ?_) (a' := ?_) #[true,true,true,true,true,true,true,true,true,true,true,false,false,false,false,false,false] rfl rfl (any_of HT_.out (by kernel_rfl)) (fun _ _ _ h => h) (Or.inl ⟨by rfl, pv⟩) pp ?_
         refine one_ (i := 11) (N := some 44) #[true,true,true,true,true,true,true,true,true,true,true,true,false,false,false,false,false] rfl rfl (one_of HT_.out (by kernel_rfl)) (by decide) (fun K hK => ?_)
         refine goes_ Try.func62 (by kernel_rfl) rfl #[.string (t220 ++ (a0.extract ((t212.size : Int) : Int).toNat (t221 : Int).toNat))] (by rfl) rfl rfl eq_ ?_
         with_reducible refine (base64_Decode.calls k (t220 ++ (a0.extract ((t212.size : Int) : Int).toNat (t221 : Int).toNat)) t222 t223 _ A22.out).mono ?_
         rintro e w57 ⟨rfl, hb⟩
         refine ⟨_, rfl, ?_⟩
         replace BK210 := Aside0.mk (blk_below (g := gb210) (o := .cells #[.int .i64 0, .string (⟨#[]⟩ : ByteArray)] 27 (0, 0)) (bq BK210.out) hb)
         replace BK215 := Aside0.mk (blk_below (g := gb215) (o := .cells #[.string t212, .int .i64 t213] 83 (0, 0)) (bq BK215.out) hb)
         replace HB := Aside0.mk (below_step (hq2 HB.out GE210.out GE215.out) hb)
         (try clear hb)
         refine hK.out _ _ ⟨(blk_cell BK215.out 0).trans rfl, (blk_cell BK215.out 1).trans rfl⟩ (fun hHeld => ?_)
         clear hK K
         refine norm_ (a' := ?_) (show Act.put _ (some 44) _ = _ from pp) ?_
         refine pure_ (i := 12) (N := some 32) (v := ?_) (a' := ?_) #[true,true,true,true,true,true,true,true,true,true,true,true,true,false,false,false,false] rfl rfl (any_of HT_.out (by kernel_rfl)) (fun _ _ _ h => h) (Or.inl ⟨by rfl, pv⟩) pp ?_
         refine pure_ (i := 13) (N := some 45) (v := ?_) (a' := ?_) #[true,true,true,true,true,true,true,true,true,true,true,true,true,true,false,false,false] rfl rfl (any_of HT_.out (by kernel_rfl)) (fun _ _ _ h => h) (Or.inl ⟨by rfl, pv⟩) pp ?_
         refine pure_ (i := 14) (N := some 46) (v := ?_) (a' := ?_) #[true,true,true,true,true,true,true,true,true,true,true,true,true,true,true,false,false] rfl rfl (any_of HT_.out (by kernel_rfl)) (fun _ _ _ h => h) (Or.inl ⟨by rfl, pv⟩) pp ?_
         refine pure_ (i := 15) (N := some 9) (v := ?_) (a' := ?_) #[true,true,true,true,true,true,true,true,true,true,true,true,true,true,true,true,false] rfl rfl (any_of HT_.out (by kernel_rfl)) (fun _ _ _ h => h) (Or.inl ⟨by rfl, pv⟩) pp ?_
         refine pure_ (i := 16) (N := some 10) (v := ?_) (a' := ?_) #[true,true,true,true,true,true,true,true,true,true,true,true,true,true,true,true,true] rfl rfl (any_of HT_.out (by kernel_rfl)) (fun _ _ _ h => h) (Or.inl ⟨by rfl, pv⟩) pp ?_
         refine done_ (done_of HT_.out (by kernel_rfl)) ?_
         try go_wp2_with (first | ((with_reducible refine gate_callee (f := 80) rfl ?_); refine goesL_ (some 50) rfl rfl Try.func80 (by kernel_rfl) rfl #[.string t222, .string t218] rfl eq_ ?_; (with_reducible refine (strings_CutPrefix.calls t222 t218 t224 false _ A23.out).mono ?_); rintro e w' ⟨rfl, ⟨nd, rfl⟩⟩; refine ⟨_, rfl, ?_⟩; (try (rw [drewN_self w57]; generalize hq_ : World.drewN w57 _ = w57; have n0_ : Aside0 (w57.heap[gb210]? = some (.cells #[.int .i64 0, .string (⟨#[]⟩ : ByteArray)] 27 (0, 0))) := ⟨by rw [← hq_]; exact (bq BK210.out)⟩; have n1_ : Aside0 (w57.heap[gb215]? = some (.cells #[.string t212, .int .i64 t213] 83 (0, 0))) := ⟨by rw [← hq_]; exact (bq BK215.out)⟩; have n2_ : Aside0 (Below w.heap.size w w57) := ⟨by rw [← hq_]; exact (hq2 HB.out GE210.out GE215.out)⟩; clear BK210 BK215 HB hq_; have BK210 := n0_; have BK215 := n1_; have HB := n2_; clear n0_ n1_ n2_)); have hcz58_0 : w57.cell? ⟨gb210, 0, none⟩ = some (.int .i64 0) := (blk_cell BK210.out 0).trans rfl; have hcz58_1 : w57.cell? ⟨gb210, 1, none⟩ = some (.string (⟨#[]⟩ : ByteArray)) := (blk_cell BK210.out 1).trans rfl; have hfz58_0 := blk_frozen BK210.out 0; have hfz58_1 := blk_frozen BK210.out 1))
         refine bodyPost_ret (results_ctt rfl _ _ gb210 27 #[.int .i64 0, .string (⟨#[]⟩ : ByteArray)] (0, 0) _ rfl (by (with_reducible repeat (first | refine blk_drewN ?_ _ | refine blk_drew ?_ | refine blk_alloc ?_ _)); refine blk_put (cs := #[.int .i64 0, .string (⟨#[]⟩ : ByteArray)]) ?_ 1 _ rfl; (with_reducible repeat (first | refine blk_drewN ?_ _ | refine blk_drew ?_ | refine blk_alloc ?_ _)); refine blk_put (cs := #[.int .i64 0, .string (⟨#[]⟩ : ByteArray)]) ?_ 0 _ rfl; (with_reducible repeat (first | refine blk_drewN ?_ _ | refine blk_drew ?_ | refine blk_alloc ?_ _)); exact BK210.out) Try.underlying27 rfl (by kernel_rfl)) rfl ?_
         exact ⟨rq_, hq2 HB.out GE210.out GE215.out⟩
       ·rw [if_neg c24] at H
        have c24b0 : (t223 == 0) = false := beq_eq_false_iff_ne.mpr c24
        have c24b1 : (t223 != 0) = true := bne_iff_ne.mpr c24
        simp only [Option.some.injEq, Prod.mk.injEq] at H
        obtain ⟨rfl, rfl, rfl, rfl⟩ := H
        go_enter Try.func70, Try.ntmps70
        try go_wp2_with (first | ((with_reducible refine gate_dst (N := 2) rfl ?_); refine box_event ?hg (N := 2) ?hd (cs := #[.int .i64 0, .string (⟨#[]⟩ : ByteArray)]) (t := 27) ?hr ?_; (case hd => rfl); (case hg => rfl); (case hr => first | (go_simp; done) | (go_simp; rfl)); intro gb210 hg w59 hbox hb; have BK210 := Aside0.mk (hbox); have GW210 := Aside0.mk ((by rw [hg]; exact (below_size (hq HB.out)) : w.heap.size ≤ gb210)); have GE210 := Aside0.mk ((by rw [hg]; exact (below_size (hq HB.out)) : w.heap.size ≤ gb210)); replace HB := Aside0.mk (below_step (hq HB.out) hb); clear hb hbox hg) | ((with_reducible refine gate_callee (f := 78) rfl ?_); refine goesL_ (some 14) rfl rfl Try.func78 (by kernel_rfl) rfl #[.string a0] rfl eq_ ?_; (with_reducible refine (primitive_begins.calls a0 t211 t212 t213 true _ A2.out).mono ?_); rintro e w60 ⟨rfl, hb⟩; refine ⟨_, rfl, ?_⟩; replace BK210 := Aside0.mk (blk_below (g := gb210) (o := .cells #[.int .i64 0, .string (⟨#[]⟩ : ByteArray)] 27 (0, 0)) (bq BK210.out) hb); replace HB := Aside0.mk (below_step (hq1 HB.out GE210.out) hb); (try clear hb)) | ((with_reducible refine gate_dst (N := 6) rfl ?_); refine box_event ?hg (N := 6) ?hd (cs := #[.string (⟨#[]⟩ : ByteArray), .int .i64 0]) (t := 83) ?hr ?_; (case hd => rfl); (case hg => rfl); (case hr => first | (go_simp; done) | (go_simp; rfl)); intro gb215 hg w61 hbox hb; have BK215 := Aside0.mk (hbox); have GW215 := Aside0.mk ((by rw [hg]; exact (below_size (hq1 HB.out GE210.out)) : w.heap.size ≤ gb215)); have GE215 := Aside0.mk ((by rw [hg]; exact (below_size (hq1 HB.out GE210.out)) : w.heap.size ≤ gb215)); replace HB := Aside0.mk (below_step (hq1 HB.out GE210.out) hb); have NB210_215 := Aside0.mk ((by rw [hg]; exact Nat.ne_of_lt (blk_lt (g := gb210) (o := .cells #[.int .i64 0, .string (⟨#[]⟩ : ByteArray)] 27 (0, 0)) (bq BK210.out)) : gb210 ≠ gb215)); have NB215_210 := Aside0.mk ((by rw [hg]; exact Nat.ne_of_gt (blk_lt (g := gb210) (o := .cells #[.int .i64 0, .string (⟨#[]⟩ : ByteArray)] 27 (0, 0)) (bq BK210.out)) : gb215 ≠ gb210)); replace BK210 := Aside0.mk (blk_below (g := gb210) (o := .cells #[.int .i64 0, .string (⟨#[]⟩ : ByteArray)] 27 (0, 0)) (bq BK210.out) hb); clear hb hbox hg; have hnb62 := NB215_210.out; have hnc62 := NB210_215.out; have hcz63_0 : w61.cell? ⟨gb215, 0, none⟩ = some (.string (⟨#[]⟩ : ByteArray)) := (blk_cell BK215.out 0).trans rfl; have hcz63_1 : w61.cell? ⟨gb215, 1, none⟩ = some (.int .i64 0) := (blk_cell BK215.out 1).trans rfl; have hfz63_0 := blk_frozen BK215.out 0; have hfz63_1 := blk_frozen BK215.out 1) | ((with_reducible refine gate_callee (f := 79) rfl ?_); refine goesL_ (some 26) rfl rfl Try.func79 (by kernel_rfl) rfl #[.agg #[.string t212, .int .i64 t213]] rfl eq_ ?_; (with_reducible refine (primitive_form_size.calls t212 t213 t216 _ A4.out).mono ?_); rintro e w64 ⟨rfl, hb⟩; refine ⟨_, rfl, ?_⟩; replace BK210 := Aside0.mk (blk_below (g := gb210) (o := .cells #[.int .i64 0, .string (⟨#[]⟩ : ByteArray)] 27 (0, 0)) (by (with_reducible repeat (first | refine blk_drewN ?_ _ | refine blk_drew ?_ | refine blk_alloc ?_ _)); refine blk_far ?_ NB210_215.out _; (with_reducible repeat (first | refine blk_drewN ?_ _ | refine blk_drew ?_ | refine blk_alloc ?_ _)); refine blk_far ?_ NB210_215.out _; (with_reducible repeat (first | refine blk_drewN ?_ _ | refine blk_drew ?_ | refine blk_alloc ?_ _)); exact BK210.out) hb); replace BK215 := Aside0.mk (blk_below (g := gb215) (o := .cells #[.string t212, .int .i64 t213] 83 (0, 0)) (by (with_reducible repeat (first | refine blk_drewN ?_ _ | refine blk_drew ?_ | refine blk_alloc ?_ _)); refine blk_put (cs := #[.string t212, .int .i64 0]) ?_ 1 _ rfl; (with_reducible repeat (first | refine blk_drewN ?_ _ | refine blk_drew ?_ | refine blk_alloc ?_ _)); refine blk_put (cs := #[.string (⟨#[]⟩ : ByteArray), .int .i64 0]) ?_ 0 _ rfl; (with_reducible repeat (first | refine blk_drewN ?_ _ | refine blk_drew ?_ | refine blk_alloc ?_ _)); exact BK215.out) hb); replace HB := Aside0.mk (below_step (hq2 HB.out GE210.out GE215.out) hb); (try clear hb); have hcz65_0 : w64.cell? ⟨gb215, 0, none⟩ = some (.string t212) := (blk_cell BK215.out 0).trans rfl; have hcz65_1 : w64.cell? ⟨gb215, 1, none⟩ = some (.int .i64 t213) := (blk_cell BK215.out 1).trans rfl; have hfz65_0 := blk_frozen BK215.out 0; have hfz65_1 := blk_frozen BK215.out 1) | ((with_reducible refine gate_callee (f := 54) rfl ?_); refine goesL_ (some 30) rfl rfl Try.func54 (by kernel_rfl) rfl #[.agg #[.string t212, .int .i64 t213]] rfl eq_ ?_; (with_reducible refine (primitive_form_lead.calls t212 t213 t217 _ A13.out).mono ?_); rintro e w66 ⟨rfl, hb⟩; refine ⟨_, rfl, ?_⟩; replace BK210 := Aside0.mk (blk_below (g := gb210) (o := .cells #[.int .i64 0, .string (⟨#[]⟩ : ByteArray)] 27 (0, 0)) (bq BK210.out) hb); replace BK215 := Aside0.mk (blk_below (g := gb215) (o := .cells #[.string t212, .int .i64 t213] 83 (0, 0)) (bq BK215.out) hb); replace HB := Aside0.mk (below_step (hq2 HB.out GE210.out GE215.out) hb); (try clear hb)) | ((with_reducible refine gate_callee (f := 53) rfl ?_); refine goesL_ (some 31) rfl rfl Try.func53 (by kernel_rfl) rfl #[.string (⟨#[0]⟩ : ByteArray), .int .i64 t217] rfl eq_ ?_; (with_reducible refine (strings_Repeat.calls (⟨#[0]⟩ : ByteArray) t217 t218 _ A14.out).mono ?_); rintro e w67 ⟨rfl, hb⟩; refine ⟨_, rfl, ?_⟩; replace BK210 := Aside0.mk (blk_below (g := gb210) (o := .cells #[.int .i64 0, .string (⟨#[]⟩ : ByteArray)] 27 (0, 0)) (bq BK210.out) hb); replace BK215 := Aside0.mk (blk_below (g := gb215) (o := .cells #[.string t212, .int .i64 t213] 83 (0, 0)) (bq BK215.out) hb); replace HB := Aside0.mk (below_step (hq2 HB.out GE210.out GE215.out) hb); (try clear hb)))
        replace BK210 := Aside0.mk (blk_drew BK210.out)
        replace BK215 := Aside0.mk (blk_drew BK215.out)
        replace HB := Aside0.mk (below_drew1 HB.out)
        refine start_ (n := 17) (S := fun w' => w'.cell? ⟨gb215, 0, none⟩ = some (.string t212) ∧ w'.cell? ⟨gb215, 1, none⟩ = some (.int .i64 t213)) (ds := []) #[false,false,false,false,false,false,false,false,false,false,false,false,false,false,false,false,false] (by kernel_rfl) rfl rfl ⟨(blk_cell BK215.out 0).trans rfl, (blk_cell BK215.out 1).trans rfl⟩ (fun hHeld => ?_); refine with_tabW primitive_Decode.tab7 primitive_Decode.bits7 (fun HT_ HW_ => ?_)
        generalize w67.drew = w68 at BK210 BK215 HB hHeld ⊢
        refine pure_ (i := 3) (N := some 36) (v := ?_) (a' := ?_) #[false,false,false,true,false,false,false,false,false,false,false,false,false,false,false,false,false] rfl rfl (any_of HT_.out (by kernel_rfl)) (fun _ _ _ h => h) (Or.inl ⟨by rfl, pv⟩) pp ?_
        refine pure_ (i := 4) (N := some 37) (v := ?_) (a' := ?_) #[false,false,false,true,true,false,false,false,false,false,false,false,false,false,false,false,false] rfl rfl (any_of HT_.out (by kernel_rfl)) (fun _ _ _ h => h) (Or.inl ⟨by rfl, pv⟩) pp ?_
        refine take_ (i := 0) (N := some 33) (v := ?_) (a' := ?_) #[true,false,false,true,true,false,false,false,false,false,false,false,false,false,false,false,false] rfl rfl (take_ofW HT_.out HW_.out (by kernel_rfl)) (fun _ _ _ h => h) (Or.inl ⟨by rfl, by rintro w' ⟨s0, s1⟩; go_simp; with_reducible rfl⟩) hHeld pp ?_
        refine take_ (i := 5) (N := some 38) (v := ?_) (a' := ?_) #[true,false,false,true,true,true,false,false,false,false,false,false,false,false,false,false,false] rfl rfl (take_ofW HT_.out HW_.out (by kernel_rfl)) (fun _ _ _ h => h) (Or.inl ⟨by rfl, by rintro w' ⟨s0, s1⟩; go_simp; with_reducible rfl⟩) hHeld pp ?_
        refine pure_ (i := 6) (N := some 39) (v := ?_) (a' := ?_) #[true,false,false,true,true,true,true,false,false,false,false,false,false,false,false,false,false] rfl rfl (any_of HT_.out (by kernel_rfl)) (fun _ _ _ h => h) (Or.inl ⟨by rfl, pv⟩) pp ?_
        refine take_ (i := 7) (N := some 40) (v := ?_) (a' := ?_) #[true,false,false,true,true,true,true,true,false,false,false,false,false,false,false,false,false] rfl rfl (take_ofW HT_.out HW_.out (by kernel_rfl)) (fun _ _ _ h => h) (Or.inl ⟨by rfl, by rintro w' ⟨s0, s1⟩; go_simp; with_reducible rfl⟩) hHeld pp ?_
        refine one_ (i := 1) (N := some 34) #[true,true,false,true,true,true,true,true,false,false,false,false,false,false,false,false,false] rfl rfl (one_of HT_.out (by kernel_rfl)) (by decide) (fun K hK => ?_)
        refine goes_ Try.func54 (by kernel_rfl) rfl #[.agg #[.string t212, .int .i64 t213]] (by rfl) rfl rfl eq_ ?_
        with_reducible refine (primitive_form_lead.calls t212 t213 t219 _ A15.out).mono ?_
        rintro e w69 ⟨rfl, hb⟩
        refine ⟨_, rfl, ?_⟩
        replace BK210 := Aside0.mk (blk_below (g := gb210) (o := .cells #[.int .i64 0, .string (⟨#[]⟩ : ByteArray)] 27 (0, 0)) (bq BK210.out) hb)
        replace BK215 := Aside0.mk (blk_below (g := gb215) (o := .cells #[.string t212, .int .i64 t213] 83 (0, 0)) (bq BK215.out) hb)
        replace HB := Aside0.mk (below_step (hq2 HB.out GE210.out GE215.out) hb)
        (try clear hb)
        refine hK.out _ _ ⟨(blk_cell BK215.out 0).trans rfl, (blk_cell BK215.out 1).trans rfl⟩ (fun hHeld => ?_)
        clear hK K
        refine norm_ (a' := ?_) (show Act.put _ (some 34) _ = _ from pp) ?_
        refine one_ (i := 2) (N := some 35) #[true,true,true,true,true,true,true,true,false,false,false,false,false,false,false,false,false] rfl rfl (one_of HT_.out (by kernel_rfl)) (by decide) (fun K hK => ?_)
        refine goes_ Try.func53 (by kernel_rfl) rfl #[.string (⟨#[65]⟩ : ByteArray), .int .i64 t219] (by rfl) rfl rfl eq_ ?_
        with_reducible refine (strings_Repeat.calls (⟨#[65]⟩ : ByteArray) t219 t220 _ A16.out).mono ?_
        rintro e w70 ⟨rfl, hb⟩
        refine ⟨_, rfl, ?_⟩
        replace BK210 := Aside0.mk (blk_below (g := gb210) (o := .cells #[.int .i64 0, .string (⟨#[]⟩ : ByteArray)] 27 (0, 0)) (bq BK210.out) hb)
        replace BK215 := Aside0.mk (blk_below (g := gb215) (o := .cells #[.string t212, .int .i64 t213] 83 (0, 0)) (bq BK215.out) hb)
        replace HB := Aside0.mk (below_step (hq2 HB.out GE210.out GE215.out) hb)
        (try clear hb)
        refine hK.out _ _ ⟨(blk_cell BK215.out 0).trans rfl, (blk_cell BK215.out 1).trans rfl⟩ (fun hHeld => ?_)
        clear hK K
        refine norm_ (a' := ?_) (show Act.put _ (some 35) _ = _ from pp) ?_
        refine one_ (i := 8) (N := some 41) #[true,true,true,true,true,true,true,true,true,false,false,false,false,false,false,false,false] rfl rfl (one_of HT_.out (by kernel_rfl)) (by decide) (fun K hK => ?_)
        refine goes_ Try.func79 (by kernel_rfl) rfl #[.agg #[.string t212, .int .i64 t213]] (by rfl) rfl rfl eq_ ?_
        with_reducible refine (primitive_form_size.calls t212 t213 t221 _ A17.out).mono ?_
        rintro e w71 ⟨rfl, hb⟩
        refine ⟨_, rfl, ?_⟩
        replace BK210 := Aside0.mk (blk_below (g := gb210) (o := .cells #[.int .i64 0, .string (⟨#[]⟩ : ByteArray)] 27 (0, 0)) (bq BK210.out) hb)
        replace BK215 := Aside0.mk (blk_below (g := gb215) (o := .cells #[.string t212, .int .i64 t213] 83 (0, 0)) (bq BK215.out) hb)
        replace HB := Aside0.mk (below_step (hq2 HB.out GE210.out GE215.out) hb)
        (try clear hb)
        refine hK.out _ _ ⟨(blk_cell BK215.out 0).trans rfl, (blk_cell BK215.out 1).trans rfl⟩ (fun hHeld => ?_)
        clear hK K
        refine norm_ (a' := ?_) (show Act.put _ (some 41) _ = _ from pp) ?_
        refine pure_ (i := 9) (N := some 42) (v := ?_) (a' := ?_) #[true,true,true,true,true,true,true,true,true,true,false,false,false,false,false,false,false] rfl rfl (any_of HT_.out (by kernel_rfl)) (fun _ _ _ h => h) (Or.inl ⟨by rfl, pv⟩) pp ?_
        refine pure_ (i := 10) (N := some 43) (v := ?_) (a' := ?_) #[true,true,true,true,true,true,true,true,true,true,true,false,false,false,false,false,false] rfl rfl (any_of HT_.out (by kernel_rfl)) (fun _ _ _ h => h) (Or.inl ⟨by rfl, pv⟩) pp ?_
        refine one_ (i := 11) (N := some 44) #[true,true,true,true,true,true,true,true,true,true,true,true,false,false,false,false,false] rfl rfl (one_of HT_.out (by kernel_rfl)) (by decide) (fun K hK => ?_)
        refine goes_ Try.func62 (by kernel_rfl) rfl #[.string (t220 ++ (a0.extract ((t212.size : Int) : Int).toNat (t221 : Int).toNat))] (by rfl) rfl rfl eq_ ?_
        with_reducible refine (base64_Decode.calls k (t220 ++ (a0.extract ((t212.size : Int) : Int).toNat (t221 : Int).toNat)) t222 t223 _ A22.out).mono ?_
        rintro e w72 ⟨rfl, hb⟩
        refine ⟨_, rfl, ?_⟩
        replace BK210 := Aside0.mk (blk_below (g := gb210) (o := .cells #[.int .i64 0, .string (⟨#[]⟩ : ByteArray)] 27 (0, 0)) (bq BK210.out) hb)
        replace BK215 := Aside0.mk (blk_below (g := gb215) (o := .cells #[.string t212, .int .i64 t213] 83 (0, 0)) (bq BK215.out) hb)
        replace HB := Aside0.mk (below_step (hq2 HB.out GE210.out GE215.out) hb)
        (try clear hb)
        refine hK.out _ _ ⟨(blk_cell BK215.out 0).trans rfl, (blk_cell BK215.out 1).trans rfl⟩ (fun hHeld => ?_)
        clear hK K
        refine norm_ (a' := ?_) (show Act.put _ (some 44) _ = _ from pp) ?_
        refine pure_ (i := 12) (N := some 32) (v := ?_) (a' := ?_) #[true,true,true,true,true,true,true,true,true,true,true,true,true,false,false,false,false] rfl rfl (any_of HT_.out (by kernel_rfl)) (fun _ _ _ h => h) (Or.inl ⟨by rfl, pv⟩) pp ?_
        refine pure_ (i := 13) (N := some 45) (v := ?_) (a' := ?_) #[true,true,true,true,true,true,true,true,true,true,true,true,true,true,false,false,false] rfl rfl (any_of HT_.out (by kernel_rfl)) (fun _ _ _ h => h) (Or.inl ⟨by rfl, pv⟩) pp ?_
        refine pure_ (i := 14) (N := some 46) (v := ?_) (a' := ?_) #[true,true,true,true,true,true,true,true,true,true,true,true,true,true,true,false,false] rfl rfl (any_of HT_.out (by kernel_rfl)) (fun _ _ _ h => h) (Or.inl ⟨by rfl, pv⟩) pp ?_
        refine pure_ (i := 15) (N := some 9) (v := ?_) (a' := ?_) #[true,true,true,true,true,true,true,true,true,true,true,true,true,true,true,true,false] rfl rfl (any_of HT_.out (by kernel_rfl)) (fun _ _ _ h => h) (Or.inl ⟨by rfl, pv⟩) pp ?_
        refine pure_ (i := 16) (N := some 10) (v := ?_) (a' := ?_) #[true,true,true,true,true,true,true,true,true,true,true,true,true,true,true,true,true] rfl rfl (any_of HT_.out (by kernel_rfl)) (fun _ _ _ h => h) (Or.inl ⟨by rfl, pv⟩) pp ?_
        refine done_ (done_of HT_.out (by kernel_rfl)) ?_
        try go_wp2_with (first | ((with_reducible refine gate_callee (f := 80) rfl ?_); refine goesL_ (some 50) rfl rfl Try.func80 (by kernel_rfl) rfl #[.string t222, .string t218] rfl eq_ ?_; (with_reducible refine (strings_CutPrefix.calls t222 t218 t224 t225 _ A23.out).mono ?_); rintro e w' ⟨rfl, ⟨nd, rfl⟩⟩; refine ⟨_, rfl, ?_⟩; (try (rw [drewN_self w72]; generalize hq_ : World.drewN w72 _ = w72; have n0_ : Aside0 (w72.heap[gb210]? = some (.cells #[.int .i64 0, .string (⟨#[]⟩ : ByteArray)] 27 (0, 0))) := ⟨by rw [← hq_]; exact (bq BK210.out)⟩; have n1_ : Aside0 (w72.heap[gb215]? = some (.cells #[.string t212, .int .i64 t213] 83 (0, 0))) := ⟨by rw [← hq_]; exact (bq BK215.out)⟩; have n2_ : Aside0 (Below w.heap.size w w72) := ⟨by rw [← hq_]; exact (hq2 HB.out GE210.out GE215.out)⟩; clear BK210 BK215 HB hq_; have BK210 := n0_; have BK215 := n1_; have HB := n2_; clear n0_ n1_ n2_)); have hcz73_0 : w72.cell? ⟨gb210, 0, none⟩ = some (.int .i64 0) := (blk_cell BK210.out 0).trans rfl; have hcz73_1 : w72.cell? ⟨gb210, 1, none⟩ = some (.string (⟨#[]⟩ : ByteArray)) := (blk_cell BK210.out 1).trans rfl; have hfz73_0 := blk_frozen BK210.out 0; have hfz73_1 := blk_frozen BK210.out 1))
        refine bodyPost_ret (results_ctt rfl _ _ gb210 27 #[.int .i64 0, .string (⟨#[]⟩ : ByteArray)] (0, 0) _ rfl (by (with_reducible repeat (first | refine blk_drewN ?_ _ | refine blk_drew ?_ | refine blk_alloc ?_ _)); refine blk_put (cs := #[.int .i64 0, .string (⟨#[]⟩ : ByteArray)]) ?_ 1 _ rfl; (with_reducible repeat (first | refine blk_drewN ?_ _ | refine blk_drew ?_ | refine blk_alloc ?_ _)); refine blk_put (cs := #[.int .i64 0, .string (⟨#[]⟩ : ByteArray)]) ?_ 0 _ rfl; (with_reducible repeat (first | refine blk_drewN ?_ _ | refine blk_drew ?_ | refine blk_alloc ?_ _)); exact BK210.out) Try.underlying27 rfl (by kernel_rfl)) rfl ?_
        exact ⟨rq_, hq2 HB.out GE210.out GE215.out⟩
      ·rw [if_neg c21] at H
       exact absurd H (by simp)
     ·rw [if_neg c20] at H
      exact absurd H (by simp)
    ·rw [if_neg c19] at H
     exact absurd H (by simp)
   ·rw [if_neg c18] at H
    exact absurd H (by simp)
 ·replace c3 := Bool.eq_false_iff.mpr c3
  subst c3
  rw [if_neg (show ¬ (false = true) by decide)] at H
  simp only [Option.some.injEq, Prod.mk.injEq] at H
  obtain ⟨rfl, rfl, rfl, rfl⟩ := H
  go_enter Try.func70, Try.ntmps70
  go_wp2_with (first | ((with_reducible refine gate_dst (N := 2) rfl ?_); refine box_event ?hg (N := 2) ?hd (cs := #[.int .i64 0, .string (⟨#[]⟩ : ByteArray)]) (t := 27) ?hr ?_; (case hd => rfl); (case hg => rfl); (case hr => first | (go_simp; done) | (go_simp; rfl)); intro gb210 hg w74 hbox hb; have BK210 := Aside0.mk (hbox); have GW210 := Aside0.mk ((by rw [hg]; exact (below_size (hq HB.out)) : w.heap.size ≤ gb210)); have GE210 := Aside0.mk ((by rw [hg]; exact (below_size (hq HB.out)) : w.heap.size ≤ gb210)); replace HB := Aside0.mk (below_step (hq HB.out) hb); clear hb hbox hg) | ((with_reducible refine gate_callee (f := 78) rfl ?_); refine goesL_ (some 14) rfl rfl Try.func78 (by kernel_rfl) rfl #[.string a0] rfl eq_ ?_; (with_reducible refine (primitive_begins.calls a0 t211 t212 t213 false _ A2.out).mono ?_); rintro e w75 ⟨rfl, hb⟩; refine ⟨_, rfl, ?_⟩; replace BK210 := Aside0.mk (blk_below (g := gb210) (o := .cells #[.int .i64 0, .string (⟨#[]⟩ : ByteArray)] 27 (0, 0)) (bq BK210.out) hb); replace HB := Aside0.mk (below_step (hq1 HB.out GE210.out) hb); (try clear hb)) | ((with_reducible refine gate_dst (N := 6) rfl ?_); refine box_event ?hg (N := 6) ?hd (cs := #[.string (⟨#[]⟩ : ByteArray), .int .i64 0]) (t := 83) ?hr ?_; (case hd => rfl); (case hg => rfl); (case hr => first | (go_simp; done) | (go_simp; rfl)); intro gb215 hg w76 hbox hb; have BK215 := Aside0.mk (hbox); have GW215 := Aside0.mk ((by rw [hg]; exact (below_size (hq1 HB.out GE210.out)) : w.heap.size ≤ gb215)); have GE215 := Aside0.mk ((by rw [hg]; exact (below_size (hq1 HB.out GE210.out)) : w.heap.size ≤ gb215)); replace HB := Aside0.mk (below_step (hq1 HB.out GE210.out) hb); have NB210_215 := Aside0.mk ((by rw [hg]; exact Nat.ne_of_lt (blk_lt (g := gb210) (o := .cells #[.int .i64 0, .string (⟨#[]⟩ : ByteArray)] 27 (0, 0)) (bq BK210.out)) : gb210 ≠ gb215)); have NB215_210 := Aside0.mk ((by rw [hg]; exact Nat.ne_of_gt (blk_lt (g := gb210) (o := .cells #[.int .i64 0, .string (⟨#[]⟩ : ByteArray)] 27 (0, 0)) (bq BK210.out)) : gb215 ≠ gb210)); replace BK210 := Aside0.mk (blk_below (g := gb210) (o := .cells #[.int .i64 0, .string (⟨#[]⟩ : ByteArray)] 27 (0, 0)) (bq BK210.out) hb); clear hb hbox hg; have hnb77 := NB215_210.out; have hnc77 := NB210_215.out; have hcz78_0 : w76.cell? ⟨gb215, 0, none⟩ = some (.string (⟨#[]⟩ : ByteArray)) := (blk_cell BK215.out 0).trans rfl; have hcz78_1 : w76.cell? ⟨gb215, 1, none⟩ = some (.int .i64 0) := (blk_cell BK215.out 1).trans rfl; have hfz78_0 := blk_frozen BK215.out 0; have hfz78_1 := blk_frozen BK215.out 1; have hcz79_0 : w76.cell? ⟨gb210, 0, none⟩ = some (.int .i64 0) := (blk_cell BK210.out 0).trans rfl; have hcz79_1 : w76.cell? ⟨gb210, 1, none⟩ = some (.string (⟨#[]⟩ : ByteArray)) := (blk_cell BK210.out 1).trans rfl; have hfz79_0 := blk_frozen BK210.out 0; have hfz79_1 := blk_frozen BK210.out 1))
  refine bodyPost_ret (results_ctt rfl _ _ gb210 27 #[.int .i64 0, .string (⟨#[]⟩ : ByteArray)] (0, 0) _ rfl (by (with_reducible repeat (first | refine blk_drewN ?_ _ | refine blk_drew ?_ | refine blk_alloc ?_ _)); refine blk_put (cs := #[.int .i64 0, .string (⟨#[]⟩ : ByteArray)]) ?_ 1 _ rfl; (with_reducible repeat (first | refine blk_drewN ?_ _ | refine blk_drew ?_ | refine blk_alloc ?_ _)); refine blk_put (cs := #[.int .i64 0, .string (⟨#[]⟩ : ByteArray)]) ?_ 0 _ rfl; (with_reducible repeat (first | refine blk_drewN ?_ _ | refine blk_drew ?_ | refine blk_alloc ?_ _)); refine blk_far ?_ NB210_215.out _; (with_reducible repeat (first | refine blk_drewN ?_ _ | refine blk_drew ?_ | refine blk_alloc ?_ _)); refine blk_far ?_ NB210_215.out _; (with_reducible repeat (first | refine blk_drewN ?_ _ | refine blk_drew ?_ | refine blk_alloc ?_ _)); exact BK210.out) Try.underlying27 rfl (by kernel_rfl)) rfl ?_
  exact ⟨rq_, hq2 HB.out GE210.out GE215.out⟩

end Go.Proofs.Ytookjdhfpbmjkaa.X
