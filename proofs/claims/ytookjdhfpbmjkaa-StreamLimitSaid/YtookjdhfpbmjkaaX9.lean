-- Written by xprint.py, a program of this repo that leads the kit's print.py: Lean checks it.
import Derived.Test.YtookjdhfpbmjkaaX0
import Derived.Test.YtookjdhfpbmjkaaX7
import Derived.Test.YtookjdhfpbmjkaaX8
namespace Go.Proofs.Ytookjdhfpbmjkaa.X
open Go.RowKit Go.Proofs.YtookjdhfpbmjkaaW.PrintWords Go.Proofs.YtookjdhfpbmjkaaW.PrintLast Go.Proofs.YtookjdhfpbmjkaaW.PrintMore
attribute [local go_sem] max2_int min2_int max_two min_two max_three min_three max_four min_four   -- for this text's walks alone
set_option linter.unusedVariables false
set_option linter.unusedSimpArgs false

/-! ### keyeventref03_Encode: function 36 -/
def keyeventref03_Encode.f (k : Nat) (a0_0 : Int) (a0_1 : ByteArray) : Option (ByteArray × Int) := (keyeventref03_Code.f a0_0).bind fun bt167 => (if bt167.2 = true then ((keyeventref03_Raw.f a0_0).bind fun t169 => (if (a0_1.size : Int) = t169 then ((keyeventref03_lead.f a0_0).bind fun t170 => (if 0 ≤ t170 then (if t170 ≤ 2 then (if ((⟨#[0,0]⟩ : ByteArray).extract 0 (t170 : Int).toNat).size + a0_1.size ≤ 9223372036854775807 then ((keyeventref01_Encode.f k (((⟨#[0,0]⟩ : ByteArray).extract 0 (t170 : Int).toNat) ++ a0_1)).bind fun bt171 => (if t170 ≤ (bt171.1.size : Int) then (if bt167.1.size + (bt171.1.extract (t170 : Int).toNat bt171.1.size).size ≤ 9223372036854775807 then (some (bt167.1 ++ (bt171.1.extract (t170 : Int).toNat bt171.1.size), 0)) else (none)) else (none))) else (none)) else (none)) else (none))) else (some ((⟨#[]⟩ : ByteArray), 8)))) else (some ((⟨#[]⟩ : ByteArray), 7)))
theorem keyeventref03_Encode.mono : ∀ a0 a1 k, LeO (keyeventref03_Encode.f k a0 a1) (keyeventref03_Encode.f (k + 1) a0 a1) := by
  intro a0 a1 k
  unfold keyeventref03_Encode.f
  repeat' first
      | (with_reducible exact keyeventref01_Encode.mono _ _)
      | (with_reducible exact LeO.refl _)
      | (with_reducible exact LeO.none _)
      | (with_reducible refine LeO.ite ?_ ?_)
      | (with_reducible refine LeO.bind ?_ (fun _ => ?_))
      | exact keyeventref01_Encode.mono _ _
      | exact LeO.none _
      | refine LeO.ite ?_ ?_
      | refine LeO.bind ?_ (fun _ => ?_)
def keyeventref03_Encode.T4 : Bool × List (List Nat × List Nat) := (true, [([], []), ([0], [0]), ([1], [1]), ([], []), ([3], [3]), ([4], [4]), ([2,5], [2,5]), ([6,5], [6])])
def keyeventref03_Encode.B4 : List Nat := [0,1,3,0,8,24,63,127]
theorem keyeventref03_Encode.tab4 : rtab .any (opsOf Try.f36 4) = keyeventref03_Encode.T4 := by kernel_rfl
theorem keyeventref03_Encode.bits4 : waitsOk keyeventref03_Encode.T4.2 keyeventref03_Encode.B4 = true := by kernel_rfl
def keyeventref03_Encode.T7 : Bool × List (List Nat × List Nat) := (true, [([], []), ([0], [0]), ([], []), ([2], [2]), ([1,3], [1,3]), ([4], [4]), ([5], [5]), ([6], [6]), ([6], [6]), ([7,5,0,1,2,3,4,5,6,7], [7]), ([8,9,0,1,2,3,4,5,6,7,8,9], [8])])
def keyeventref03_Encode.B7 : List Nat := [0,1,0,4,15,31,63,127,127,255,1023]
theorem keyeventref03_Encode.tab7 : rtab .any (opsOf Try.f36 7) = keyeventref03_Encode.T7 := by kernel_rfl
theorem keyeventref03_Encode.bits7 : waitsOk keyeventref03_Encode.T7.2 keyeventref03_Encode.B7 = true := by kernel_rfl
set_option maxHeartbeats 8000000 in
set_option maxRecDepth 100000 in
theorem keyeventref03_Encode.calls (k : Nat) (a0_0 : Int) (a0_1 : ByteArray) (r1 : ByteArray) (r2 : Int) (w : World) (h : keyeventref03_Encode.f k a0_0 a0_1 = some (r1, r2)) :
    Calls Try.prog 36 #[.agg #[.int .i64 a0_0, .string a0_1]] w fun e w' => e = .returned (.tuple #[.string r1, .int .i64 r2]) ∧ Below w.heap.size w w' := by
 have hu27 := Try.underlying27
 have HB := Aside0.mk (Below.refl w.heap.size w)
 have H : ((keyeventref03_Code.f a0_0).bind fun bt167 => (if bt167.2 = true then ((keyeventref03_Raw.f a0_0).bind fun t169 => (if (a0_1.size : Int) = t169 then ((keyeventref03_lead.f a0_0).bind fun t170 => (if 0 ≤ t170 then (if t170 ≤ 2 then (if ((⟨#[0,0]⟩ : ByteArray).extract 0 (t170 : Int).toNat).size + a0_1.size ≤ 9223372036854775807 then ((keyeventref01_Encode.f k (((⟨#[0,0]⟩ : ByteArray).extract 0 (t170 : Int).toNat) ++ a0_1)).bind fun bt171 => (if t170 ≤ (bt171.1.size : Int) then (if bt167.1.size + (bt171.1.extract (t170 : Int).toNat bt171.1.size).size ≤ 9223372036854775807 then (some (bt167.1 ++ (bt171.1.extract (t170 : Int).toNat bt171.1.size), 0)) else (none)) else (none))) else (none)) else (none)) else (none))) else (some ((⟨#[]⟩ : ByteArray), 8)))) else (some ((⟨#[]⟩ : ByteArray), 7)))) = some (r1, r2) := h
 clear h
 obtain ⟨⟨t167, t168⟩, A2, H⟩ := bindS H
 try dsimp only at H
 by_cases c3 : t168 = true
 ·subst c3
  rw [if_pos rfl] at H
  obtain ⟨t169, A4, H⟩ := bindS H
  by_cases c5 : (a0_1.size : Int) = t169
  ·rw [if_pos c5] at H
   have c5b0 : ((a0_1.size : Int) == t169) = true := beq_iff_eq.mpr c5
   have c5b1 : ((a0_1.size : Int) != t169) = false := bne_eq_false_iff_eq.mpr c5
   clear c5
   obtain ⟨t170, A6, H⟩ := bindS H
   by_cases c7 : 0 ≤ t170
   ·rw [if_pos c7] at H
    have c7b0 := eq_true c7
    have c7b1 := decide_eq_true c7
    clear c7
    by_cases c8 : t170 ≤ 2
    ·rw [if_pos c8] at H
     have c8b0 := eq_true c8
     have c8b1 := decide_eq_true c8
     clear c8
     by_cases c9 : ((⟨#[0,0]⟩ : ByteArray).extract 0 (t170 : Int).toNat).size + a0_1.size ≤ 9223372036854775807
     ·rw [if_pos c9] at H
      have c9b0 := eq_true c9
      have c9b1 := decide_eq_true c9
      try have c9b2 : (9223372036854775807 < ((⟨#[0,0]⟩ : ByteArray).extract 0 (t170 : Int).toNat).size + a0_1.size) = False := eq_false (Nat.not_lt.2 c9)
      have c9b3 : (9223372036854775807 < t170.toNat + a0_1.size) = False := eq_false (by have h_ := c9; simp only [ByteArray.size_extract] at h_; have l0_ : (t170 : Int) ≤ 2 := of_eq_true (by assumption); simp only [show (⟨#[0,0]⟩ : ByteArray).size = 2 from rfl] at h_; omega)
      obtain ⟨⟨t171, t172⟩, A10, H⟩ := bindS H
      try dsimp only at H
      have c11b0 := eq_true (of_decide_eq_true aq : 0 ≤ t170)
      by_cases c12 : t170 ≤ (t171.size : Int)
      ·rw [if_pos c12] at H
       have c12b0 := eq_true c12
       have c12b1 := decide_eq_true c12
       clear c12
       by_cases c13 : t167.size + (t171.extract (t170 : Int).toNat t171.size).size ≤ 9223372036854775807
       ·rw [if_pos c13] at H
        have c13b0 := eq_true c13
        have c13b1 := decide_eq_true c13
        try have c13b2 : (9223372036854775807 < t167.size + (t171.extract (t170 : Int).toNat t171.size).size) = False := eq_false (Nat.not_lt.2 c13)
        simp only [Option.some.injEq, Prod.mk.injEq] at H
        obtain ⟨rfl, rfl⟩ := H
        go_enter Try.func36, Try.ntmps36
        try go_wp2_with (first | ((with_reducible refine gate_dst (N := 1) rfl ?_); refine box_event ?hg (N := 1) ?hd (cs := #[.int .i64 a0_0, .string a0_1]) (t := 27) ?hr ?_; (case hd => rfl); (case hg => rfl); (case hr => first | (go_simp; done) | (go_simp; rfl)); intro gb166 hg w14 hbox hb; have BK166 := Aside0.mk (hbox); have GW166 := Aside0.mk ((by rw [hg]; exact (below_size (hq HB.out)) : w.heap.size ≤ gb166)); have GE166 := Aside0.mk ((by rw [hg]; exact (below_size (hq HB.out)) : w.heap.size ≤ gb166)); replace HB := Aside0.mk (below_step (hq HB.out) hb); clear hb hbox hg; have hcz15_0 : w14.cell? ⟨gb166, 0, none⟩ = some (.int .i64 a0_0) := (blk_cell BK166.out 0).trans rfl; have hcz15_1 : w14.cell? ⟨gb166, 1, none⟩ = some (.string a0_1) := (blk_cell BK166.out 1).trans rfl; have hfz15_0 := blk_frozen BK166.out 0; have hfz15_1 := blk_frozen BK166.out 1) | ((with_reducible refine gate_callee (f := 55) rfl ?_); refine goesL_ (some 12) rfl rfl Try.func55 (by kernel_rfl) rfl #[.int .i64 a0_0] rfl eq_ ?_; (with_reducible refine (keyeventref03_Code.calls a0_0 t167 true _ A2.out).mono ?_); rintro e w16 ⟨rfl, hb⟩; refine ⟨_, rfl, ?_⟩; replace BK166 := Aside0.mk (blk_below (g := gb166) (o := .cells #[.int .i64 a0_0, .string a0_1] 27 (0, 0)) (bq BK166.out) hb); replace HB := Aside0.mk (below_step (hq1 HB.out GE166.out) hb); (try clear hb)))
        replace BK166 := Aside0.mk (blk_drew BK166.out)
        replace HB := Aside0.mk (below_drew1 HB.out)
        refine start_ (n := 8) (S := fun w' => w'.cell? ⟨gb166, 0, none⟩ = some (.int .i64 a0_0) ∧ w'.cell? ⟨gb166, 1, none⟩ = some (.string a0_1)) (ds := []) #[false,false,false,false,false,false,false,false] (by kernel_rfl) rfl rfl ⟨(blk_cell BK166.out 0).trans rfl, (blk_cell BK166.out 1).trans rfl⟩ (fun hHeld => ?_); refine with_tabW keyeventref03_Encode.tab4 keyeventref03_Encode.bits4 (fun HT_ HW_ => ?_)
        generalize w16.drew = w17 at BK166 HB hHeld ⊢
        refine pure_ (i := 0) (N := some 19) (v := ?_) (a' := ?_) #[true,false,false,false,false,false,false,false] rfl rfl (any_of HT_.out (by kernel_rfl)) (fun _ _ _ h => h) (Or.inl ⟨by rfl, pv⟩) pp ?_
        refine pure_ (i := 3) (N := some 22) (v := ?_) (a' := ?_) #[true,false,false,true,false,false,false,false] rfl rfl (any_of HT_.out (by kernel_rfl)) (fun _ _ _ h => h) (Or.inl ⟨by rfl, pv⟩) pp ?_
        refine take_ (i := 1) (N := some 20) (v := ?_) (a' := ?_) #[true,true,false,true,false,false,false,false] rfl rfl (take_ofW HT_.out HW_.out (by kernel_rfl)) (fun _ _ _ h => h) (Or.inl ⟨by rfl, by rintro w' ⟨s0, s1⟩; go_simp; with_reducible rfl⟩) hHeld pp ?_
        refine pure_ (i := 2) (N := some 21) (v := ?_) (a' := ?_) #[true,true,true,true,false,false,false,false] rfl rfl (any_of HT_.out (by kernel_rfl)) (fun _ _ _ h => h) (Or.inl ⟨by rfl, pv⟩) pp ?_
        refine take_ (i := 4) (N := some 23) (v := ?_) (a' := ?_) #[true,true,true,true,true,false,false,false] rfl rfl (take_ofW HT_.out HW_.out (by kernel_rfl)) (fun _ _ _ h => h) (Or.inl ⟨by rfl, by rintro w' ⟨s0, s1⟩; go_simp; with_reducible rfl⟩) hHeld pp ?_
        refine one_ (i := 5) (N := some 24) #[true,true,true,true,true,true,false,false] rfl rfl (one_of HT_.out (by kernel_rfl)) (by decide) (fun K hK => ?_)
        refine goes_ Try.func41 (by kernel_rfl) rfl #[.int .i64 a0_0] (by rfl) rfl rfl eq_ ?_
        with_reducible refine (keyeventref03_Raw.calls a0_0 t169 _ A4.out).mono ?_
        rintro e w18 ⟨rfl, hb⟩
        refine ⟨_, rfl, ?_⟩
        replace BK166 := Aside0.mk (blk_below (g := gb166) (o := .cells #[.int .i64 a0_0, .string a0_1] 27 (0, 0)) (bq BK166.out) hb)
        replace HB := Aside0.mk (below_step (hq1 HB.out GE166.out) hb)
        (try clear hb)
        refine hK.out _ _ ⟨(blk_cell BK166.out 0).trans rfl, (blk_cell BK166.out 1).trans rfl⟩ (fun hHeld => ?_)
        clear hK K
        refine norm_ (a' := ?_) (show Act.put _ (some 24) _ = _ from pp) ?_
        refine pure_ (i := 6) (N := some 25) (v := ?_) (a' := ?_) #[true,true,true,true,true,true,true,false] rfl rfl (any_of HT_.out (by kernel_rfl)) (fun _ _ _ h => h) (Or.inl ⟨by rfl, pv⟩) pp ?_
        refine pure_ (i := 7) (N := some 18) (v := ?_) (a' := ?_) #[true,true,true,true,true,true,true,true] rfl rfl (any_of HT_.out (by kernel_rfl)) (fun _ _ _ h => h) (Or.inl ⟨by rfl, pv⟩) pp ?_
        refine done_ (done_of HT_.out (by kernel_rfl)) ?_
        have hcz19_0 : w18.cell? ⟨gb166, 0, none⟩ = some (.int .i64 a0_0) := (blk_cell BK166.out 0).trans rfl
        have hcz19_1 : w18.cell? ⟨gb166, 1, none⟩ = some (.string a0_1) := (blk_cell BK166.out 1).trans rfl
        have hfz19_0 := blk_frozen BK166.out 0
        have hfz19_1 := blk_frozen BK166.out 1
        try go_wp2_with (first | ((with_reducible refine gate_callee (f := 56) rfl ?_); refine goesL_ (some 28) rfl rfl Try.func56 (by kernel_rfl) rfl #[.int .i64 a0_0] rfl eq_ ?_; (with_reducible refine (keyeventref03_lead.calls a0_0 t170 _ A6.out).mono ?_); rintro e w20 ⟨rfl, hb⟩; refine ⟨_, rfl, ?_⟩; replace BK166 := Aside0.mk (blk_below (g := gb166) (o := .cells #[.int .i64 a0_0, .string a0_1] 27 (0, 0)) (bq BK166.out) hb); replace HB := Aside0.mk (below_step (hq1 HB.out GE166.out) hb); (try clear hb)))
        replace BK166 := Aside0.mk (blk_drew BK166.out)
        replace HB := Aside0.mk (below_drew1 HB.out)
        refine start_ (n := 11) (S := fun w' => w'.cell? ⟨gb166, 0, none⟩ = some (.int .i64 a0_0) ∧ w'.cell? ⟨gb166, 1, none⟩ = some (.string a0_1)) (ds := []) #[false,false,false,false,false,false,false,false,false,false,false] (by kernel_rfl) rfl rfl ⟨(blk_cell BK166.out 0).trans rfl, (blk_cell BK166.out 1).trans rfl⟩ (fun hHeld => ?_); refine with_tabW keyeventref03_Encode.tab7 keyeventref03_Encode.bits7 (fun HT_ HW_ => ?_)
        generalize w20.drew = w21 at BK166 HB hHeld ⊢
        refine pure_ (i := 0) (N := some 30) (v := ?_) (a' := ?_) #[true,false,false,false,false,false,false,false,false,false,false] rfl rfl (any_of HT_.out (by kernel_rfl)) (fun _ _ _ h => h) (Or.inl ⟨by rfl, pv⟩) pp ?_
        refine pure_ (i := 1) (N := some 31) (v := ?_) (a' := ?_) #[true,true,false,false,false,false,false,false,false,false,false] rfl rfl (any_of HT_.out (by kernel_rfl)) (fun _ _ _ h => h) (Or.inl ⟨by rfl, pv⟩) pp ?_
        refine pure_ (i := 2) (N := some 32) (v := ?_) (a' := ?_) #[true,true,true,false,false,false,false,false,false,false,false] rfl rfl (any_of HT_.out (by kernel_rfl)) (fun _ _ _ h => h) (Or.inl ⟨by rfl, pv⟩) pp ?_
        refine take_ (i := 3) (N := some 33) (v := ?_) (a' := ?_) #[true,true,true,true,false,false,false,false,false,false,false] rfl rfl (take_ofW HT_.out HW_.out (by kernel_rfl)) (fun _ _ _ h => h) (Or.inl ⟨by rfl, by rintro w' ⟨s0, s1⟩; go_simp; with_reducible rfl⟩) hHeld pp ?_
        refine pure_ (i := 4) (N := some 34) (v := ?_) (a' := ?_) #[true,true,true,true,true,false,false,false,false,false,false] rfl rfl (any_of HT_.out (by kernel_rfl)) (fun _ _ _ h => h) (Or.inl ⟨by rfl, pv⟩) pp ?_
        refine one_ (i := 5) (N := some 35) #[true,true,true,true,true,true,false,false,false,false,false] rfl rfl (one_of HT_.out (by kernel_rfl)) (by decide) (fun K hK => ?_)
        refine goes_ Try.func57 (by kernel_rfl) rfl #[.string (((⟨#[0,0]⟩ : ByteArray).extract 0 (t170 : Int).toNat) ++ a0_1)] (by rfl) rfl rfl eq_ ?_
        with_reducible refine (keyeventref01_Encode.calls k (((⟨#[0,0]⟩ : ByteArray).extract 0 (t170 : Int).toNat) ++ a0_1) t171 t172 _ A10.out).mono ?_
        rintro e w22 ⟨rfl, hb⟩
        refine ⟨_, rfl, ?_⟩
        replace BK166 := Aside0.mk (blk_below (g := gb166) (o := .cells #[.int .i64 a0_0, .string a0_1] 27 (0, 0)) (bq BK166.out) hb)
        replace HB := Aside0.mk (below_step (hq1 HB.out GE166.out) hb)
        (try clear hb)
        refine hK.out _ _ ⟨(blk_cell BK166.out 0).trans rfl, (blk_cell BK166.out 1).trans rfl⟩ (fun hHeld => ?_)
        clear hK K
        refine norm_ (a' := ?_) (show Act.put _ (some 35) _ = _ from pp) ?_
        refine pure_ (i := 6) (N := some 29) (v := ?_) (a' := ?_) #[true,true,true,true,true,true,true,false,false,false,false] rfl rfl (any_of HT_.out (by kernel_rfl)) (fun _ _ _ h => h) (Or.inl ⟨by rfl, pv⟩) pp ?_
        refine pure_ (i := 7) (N := some 36) (v := ?_) (a' := ?_) #[true,true,true,true,true,true,true,true,false,false,false] rfl rfl (any_of HT_.out (by kernel_rfl)) (fun _ _ _ h => h) (Or.inl ⟨by rfl, pv⟩) pp ?_
        refine pure_ (i := 8) (N := some 37) (v := ?_) (a' := ?_) #[true,true,true,true,true,true,true,true,true,false,false] rfl rfl (any_of HT_.out (by kernel_rfl)) (fun _ _ _ h => h) (Or.inl ⟨by rfl, pv⟩) pp ?_
        refine pure_ (i := 9) (N := some 7) (v := ?_) (a' := ?_) #[true,true,true,true,true,true,true,true,true,true,false] rfl rfl (any_of HT_.out (by kernel_rfl)) (fun _ _ _ h => h) (Or.inl ⟨by rfl, pv⟩) pp ?_
        refine pure_ (i := 10) (N := some 8) (v := ?_) (a' := ?_) #[true,true,true,true,true,true,true,true,true,true,true] rfl rfl (any_of HT_.out (by kernel_rfl)) (fun _ _ _ h => h) (Or.inl ⟨by rfl, pv⟩) pp ?_
        refine done_ (done_of HT_.out (by kernel_rfl)) ?_
        try go_wp2
        go_ret2
        exact ⟨rq_, hq1 HB.out GE166.out⟩
       ·rw [if_neg c13] at H
        exact absurd H (by simp)
      ·rw [if_neg c12] at H
       exact absurd H (by simp)
     ·rw [if_neg c9] at H
      exact absurd H (by simp)
    ·rw [if_neg c8] at H
     exact absurd H (by simp)
   ·rw [if_neg c7] at H
    exact absurd H (by simp)
  ·rw [if_neg c5] at H
   have c5b0 : ((a0_1.size : Int) == t169) = false := beq_eq_false_iff_ne.mpr c5
   have c5b1 : ((a0_1.size : Int) != t169) = true := bne_iff_ne.mpr c5
   simp only [Option.some.injEq, Prod.mk.injEq] at H
   obtain ⟨rfl, rfl⟩ := H
   go_enter Try.func36, Try.ntmps36
   try go_wp2_with (first | ((with_reducible refine gate_dst (N := 1) rfl ?_); refine box_event ?hg (N := 1) ?hd (cs := #[.int .i64 a0_0, .string a0_1]) (t := 27) ?hr ?_; (case hd => rfl); (case hg => rfl); (case hr => first | (go_simp; done) | (go_simp; rfl)); intro gb166 hg w23 hbox hb; have BK166 := Aside0.mk (hbox); have GW166 := Aside0.mk ((by rw [hg]; exact (below_size (hq HB.out)) : w.heap.size ≤ gb166)); have GE166 := Aside0.mk ((by rw [hg]; exact (below_size (hq HB.out)) : w.heap.size ≤ gb166)); replace HB := Aside0.mk (below_step (hq HB.out) hb); clear hb hbox hg; have hcz24_0 : w23.cell? ⟨gb166, 0, none⟩ = some (.int .i64 a0_0) := (blk_cell BK166.out 0).trans rfl; have hcz24_1 : w23.cell? ⟨gb166, 1, none⟩ = some (.string a0_1) := (blk_cell BK166.out 1).trans rfl; have hfz24_0 := blk_frozen BK166.out 0; have hfz24_1 := blk_frozen BK166.out 1) | ((with_reducible refine gate_callee (f := 55) rfl ?_); refine goesL_ (some 12) rfl rfl Try.func55 (by kernel_rfl) rfl #[.int .i64 a0_0] rfl eq_ ?_; (with_reducible refine (keyeventref03_Code.calls a0_0 t167 true _ A2.out).mono ?_); rintro e w25 ⟨rfl, hb⟩; refine ⟨_, rfl, ?_⟩; replace BK166 := Aside0.mk (blk_below (g := gb166) (o := .cells #[.int .i64 a0_0, .string a0_1] 27 (0, 0)) (bq BK166.out) hb); replace HB := Aside0.mk (below_step (hq1 HB.out GE166.out) hb); (try clear hb)))
   replace BK166 := Aside0.mk (blk_drew BK166.out)
   replace HB := Aside0.mk (below_drew1 HB.out)
   refine start_ (n := 8) (S := fun w' => w'.cell? ⟨gb166, 0, none⟩ = some (.int .i64 a0_0) ∧ w'.cell? ⟨gb166, 1, none⟩ = some (.string a0_1)) (ds := []) #[false,false,false,false,false,false,false,false] (by kernel_rfl) rfl rfl ⟨(blk_cell BK166.out 0).trans rfl, (blk_cell BK166.out 1).trans rfl⟩ (fun hHeld => ?_); refine with_tabW keyeventref03_Encode.tab4 keyeventref03_Encode.bits4 (fun HT_ HW_ => ?_)
   generalize w25.drew = w26 at BK166 HB hHeld ⊢
   refine pure_ (i := 0) (N := some 19) (v := ?_) (a' := ?_) #[true,false,false,false,false,false,false,false] rfl rfl (any_of HT_.out (by kernel_rfl)) (fun _ _ _ h => h) (Or.inl ⟨by rfl, pv⟩) pp ?_
   refine pure_ (i := 3) (N := some 22) (v := ?_) (a' := ?_) #[true,false,false,true,false,false,false,false] rfl rfl (any_of HT_.out (by kernel_rfl)) (fun _ _ _ h => h) (Or.inl ⟨by rfl, pv⟩) pp ?_
   refine take_ (i := 1) (N := some 20) (v := ?_) (a' := ?_) #[true,true,false,true,false,false,false,false] rfl rfl (take_ofW HT_.out HW_.out (by kernel_rfl)) (fun _ _ _ h => h) (Or.inl ⟨by rfl, by rintro w' ⟨s0, s1⟩; go_simp; with_reducible rfl⟩) hHeld pp ?_
   refine pure_ (i := 2) (N := some 21) (v := ?_) (a' := ?_) #[true,true,true,true,false,false,false,false] rfl rfl (any_of HT_.out (by kernel_rfl)) (fun _ _ _ h => h) (Or.inl ⟨by rfl, pv⟩) pp ?_
   refine take_ (i := 4) (N := some 23) (v := ?_) (a' := ?_) #[true,true,true,true,true,false,false,false] rfl rfl (take_ofW HT_.out HW_.out (by kernel_rfl)) (fun _ _ _ h => h) (Or.inl ⟨by rfl, by rintro w' ⟨s0, s1⟩; go_simp; with_reducible rfl⟩) hHeld pp ?_
   refine one_ (i := 5) (N := some 24) #[true,true,true,true,true,true,false,false] rfl rfl (one_of HT_.out (by kernel_rfl)) (by decide) (fun K hK => ?_)
   refine goes_ Try.func41 (by kernel_rfl) rfl #[.int .i64 a0_0] (by rfl) rfl rfl eq_ ?_
   with_reducible refine (keyeventref03_Raw.calls a0_0 t169 _ A4.out).mono ?_
   rintro e w27 ⟨rfl, hb⟩
   refine ⟨_, rfl, ?_⟩
   replace BK166 := Aside0.mk (blk_below (g := gb166) (o := .cells #[.int .i64 a0_0, .string a0_1] 27 (0, 0)) (bq BK166.out) hb)
   replace HB := Aside0.mk (below_step (hq1 HB.out GE166.out) hb)
   (try clear hb)
   refine hK.out _ _ ⟨(blk_cell BK166.out 0).trans rfl, (blk_cell BK166.out 1).trans rfl⟩ (fun hHeld => ?_)
   clear hK K
   refine norm_ (a' := ?_) (show Act.put _ (some 24) _ = _ from pp) ?_
   refine pure_ (i := 6) (N := some 25) (v := ?_) (a' := ?_) #[true,true,true,true,true,true,true,false] rfl rfl (any_of HT_.out (by kernel_rfl)) (fun _ _ _ h => h) (Or.inl ⟨by rfl, pv⟩) pp ?_
   refine pure_ (i := 7) (N := some 18) (v := ?_) (a' := ?_) #[true,true,true,true,true,true,true,true] rfl rfl (any_of HT_.out (by kernel_rfl)) (fun _ _ _ h => h) (Or.inl ⟨by rfl, pv⟩) pp ?_
   refine done_ (done_of HT_.out (by kernel_rfl)) ?_
   try go_wp2
   go_ret2
   exact ⟨rq_, hq1 HB.out GE166.out⟩
 ·replace c3 := Bool.eq_false_iff.mpr c3
  subst c3
  rw [if_neg (show ¬ (false = true) by decide)] at H
  simp only [Option.some.injEq, Prod.mk.injEq] at H
  obtain ⟨rfl, rfl⟩ := H
  go_enter Try.func36, Try.ntmps36
  go_wp2_with (first | ((with_reducible refine gate_dst (N := 1) rfl ?_); refine box_event ?hg (N := 1) ?hd (cs := #[.int .i64 a0_0, .string a0_1]) (t := 27) ?hr ?_; (case hd => rfl); (case hg => rfl); (case hr => first | (go_simp; done) | (go_simp; rfl)); intro gb166 hg w28 hbox hb; have BK166 := Aside0.mk (hbox); have GW166 := Aside0.mk ((by rw [hg]; exact (below_size (hq HB.out)) : w.heap.size ≤ gb166)); have GE166 := Aside0.mk ((by rw [hg]; exact (below_size (hq HB.out)) : w.heap.size ≤ gb166)); replace HB := Aside0.mk (below_step (hq HB.out) hb); clear hb hbox hg; have hcz29_0 : w28.cell? ⟨gb166, 0, none⟩ = some (.int .i64 a0_0) := (blk_cell BK166.out 0).trans rfl; have hcz29_1 : w28.cell? ⟨gb166, 1, none⟩ = some (.string a0_1) := (blk_cell BK166.out 1).trans rfl; have hfz29_0 := blk_frozen BK166.out 0; have hfz29_1 := blk_frozen BK166.out 1) | ((with_reducible refine gate_callee (f := 55) rfl ?_); refine goesL_ (some 12) rfl rfl Try.func55 (by kernel_rfl) rfl #[.int .i64 a0_0] rfl eq_ ?_; (with_reducible refine (keyeventref03_Code.calls a0_0 t167 false _ A2.out).mono ?_); rintro e w30 ⟨rfl, hb⟩; refine ⟨_, rfl, ?_⟩; replace BK166 := Aside0.mk (blk_below (g := gb166) (o := .cells #[.int .i64 a0_0, .string a0_1] 27 (0, 0)) (bq BK166.out) hb); replace HB := Aside0.mk (below_step (hq1 HB.out GE166.out) hb); (try clear hb)))
  go_ret2
  exact ⟨rq_, hq1 HB.out GE166.out⟩

end Go.Proofs.Ytookjdhfpbmjkaa.X
