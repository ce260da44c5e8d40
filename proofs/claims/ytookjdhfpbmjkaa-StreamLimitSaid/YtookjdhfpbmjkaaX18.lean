-- Written by xprint.py, a program of this repo that leads the kit's print.py: Lean checks it.
import Derived.Test.YtookjdhfpbmjkaaX0
import Derived.Test.YtookjdhfpbmjkaaX17
namespace Go.Proofs.Ytookjdhfpbmjkaa.X
open Go.RowKit Go.Proofs.YtookjdhfpbmjkaaW.PrintWords Go.Proofs.YtookjdhfpbmjkaaW.PrintLast Go.Proofs.YtookjdhfpbmjkaaW.PrintMore
attribute [local go_sem] max2_int min2_int max_two min_two max_three min_three max_four min_four   -- for this text's walks alone
set_option linter.unusedVariables false
set_option linter.unusedSimpArgs false

/-! ### keyeventref04_Decode: function 11 -/
def keyeventref04_Decode.l0 : Nat → ByteArray → List (S25) → Int → Option ((List (S25)) × Int)
  | 0, _, _, _ => none
  | k + 1, x0, x4, x5 => if (x0.size : Int) > 0 then ((keyeventref04_Group.f k x0).bind fun bt300 => (if bt300.2.2.2 = 0 then (if x4.length < 4398046511104 then (keyeventref04_Decode.l0 k bt300.2.2.1 (x4 ++ [(⟨bt300.1, bt300.2.1⟩ : S25)]) (wrap64 (x5 + (bt300.2.1.length : Int)))) else (none)) else (some (([] : List (S25)), bt300.2.2.2)))) else (if x5 > 1024 then (some (([] : List (S25)), 3)) else (some (x4, 0)))
def keyeventref04_Decode.f (k : Nat) (a0 : ByteArray) : Option ((List (S25)) × Int) := keyeventref04_Decode.l0 k a0 ([] : List (S25)) 0
theorem keyeventref04_Decode.mono_l : ∀ k, (∀ y0 y1 y2, LeO (keyeventref04_Decode.l0 k y0 y1 y2) (keyeventref04_Decode.l0 (k + 1) y0 y1 y2))
  | 0 => fun _ _ _ r h => by simp [keyeventref04_Decode.l0] at h
  | k + 1 => by
    have ih0 := keyeventref04_Decode.mono_l k
    · intro y0 y1 y2
      unfold keyeventref04_Decode.l0
      repeat' first
      | (with_reducible exact ih0 _ _ _)
      | (with_reducible exact keyeventref04_Group.mono _ _)
      | (with_reducible exact LeO.refl _)
      | (with_reducible exact LeO.none _)
      | (with_reducible refine LeO.ite ?_ ?_)
      | (with_reducible refine LeO.bind ?_ (fun _ => ?_))
      | exact ih0 _ _ _
      | exact keyeventref04_Group.mono _ _
      | exact LeO.none _
      | refine LeO.ite ?_ ?_
      | refine LeO.bind ?_ (fun _ => ?_)
theorem keyeventref04_Decode.mono : ∀ a0 k, LeO (keyeventref04_Decode.f k a0) (keyeventref04_Decode.f (k + 1) a0) := by
  intro a0 k
  have ih0 := keyeventref04_Decode.mono_l k
  unfold keyeventref04_Decode.f
  repeat' first
      | (with_reducible exact ih0 _ _ _)
      | (with_reducible exact keyeventref04_Group.mono _ _)
      | (with_reducible exact LeO.refl _)
      | (with_reducible exact LeO.none _)
      | (with_reducible refine LeO.ite ?_ ?_)
      | (with_reducible refine LeO.bind ?_ (fun _ => ?_))
      | exact ih0 _ _ _
      | exact keyeventref04_Group.mono _ _
      | exact LeO.none _
      | refine LeO.ite ?_ ?_
      | refine LeO.bind ?_ (fun _ => ?_)
def keyeventref04_Decode.T7 : Bool × List (List Nat × List Nat) := (true, [([], []), ([], []), ([1], [1]), ([0,2], [0,2]), ([], []), ([], []), ([], []), ([6], [6]), ([7], [7]), ([5,8], [5,8]), ([3,3,0,1,2,3], [0,3]), ([4,10,0,1,2,3,4,10], [4]), ([9,11,0,1,2,3,4,5,6,7,8,9,10,11], [5,9])])
def keyeventref04_Decode.B7 : List Nat := [0,0,2,7,0,0,0,64,192,480,15,1055,4095]
theorem keyeventref04_Decode.tab7 : rtab .any (opsOf Try.f11 7) = keyeventref04_Decode.T7 := by kernel_rfl
theorem keyeventref04_Decode.bits7 : waitsOk keyeventref04_Decode.T7.2 keyeventref04_Decode.B7 = true := by kernel_rfl
set_option maxHeartbeats 8000000 in
set_option maxRecDepth 100000 in
theorem keyeventref04_Decode.calls (k : Nat) (a0 : ByteArray) (r1 : List (S25)) (r2 : Int) (w : World) (h : keyeventref04_Decode.f k a0 = some (r1, r2)) :
    Calls Try.prog 11 #[.string a0] w fun e w' => ∃ v0_ : Value, e = .returned (.tuple #[v0_, .int .i64 r2]) ∧ Kd.S k25 25 w' w.heap.size (fun _ => True) v0_ r1 ∧ Below w.heap.size w w' := by
 have hu25 := Try.underlying25
 have HB := Aside0.mk (Below.refl w.heap.size w)
 have H : (keyeventref04_Decode.l0 k a0 ([] : List (S25)) 0) = some (r1, r2) := h
 clear h
 have H' := Aside0.mk H
 clear H
 go_enter Try.func11, Try.ntmps11
 go_wp2
 go_loopg [0,4,5] k (fun kq v0 v4 v5 w' => ∃ (x0_1 : ByteArray) (x4_1 : List (S25)) (x5_1 : Int), v0 = .string x0_1 ∧ v5 = .int .i64 x5_1 ∧ Aside0 (keyeventref04_Decode.l0 kq x0_1 x4_1 x5_1 = some (r1, r2)) ∧ Aside0 (kq ≤ k) ∧ Aside0 (Kd.S k25 25 w' w.heap.size (fun _ => True) v4 x4_1) ∧ Aside0 (Below w.heap.size w w'))
 case atStart => exact ⟨(a0), (([] : List (S25))), (0), dq, dq, H', ⟨Nat.le_refl _⟩, ⟨by first | exact Kd.S_nil _ _ _ _ _ | exact Kd.N_nil _ _ _ _ _ | exact Kd.V_nil _ _ _ _ _ | exact Kd.Q_nil _ _ _ _ _ | exact Kd.R_nil _ _ _ _ _⟩, ⟨hq HB.out⟩⟩
 case round =>
  clear H'
  try clear c1
  obtain ⟨x0_1, x4_1, x5_1, rfl, rfl, HA, HK1, HO_4, HB⟩ := hrel
  cases gk with
  | zero => exact absurd HA.out (by simp [keyeventref04_Decode.l0])
  | succ k1 =>
   have H := HA.out
   clear HA
   simp only [keyeventref04_Decode.l0] at H
   by_cases c2 : (x0_1.size : Int) > 0
   ·rw [if_pos c2] at H
    have c2b0 := decide_eq_true c2
    have c2b1 : decide (0 < x0_1.size) = true := decide_eq_true (by omega)
    clear c2
    obtain ⟨⟨t300, t301, t304, t305⟩, A3, H⟩ := bindS H
    try dsimp only at H
    by_cases c4 : t305 = 0
    ·rw [if_pos c4] at H
     have c4b0 : (t305 == 0) = true := beq_iff_eq.mpr c4
     have c4b1 : (t305 != 0) = false := bne_eq_false_iff_eq.mpr c4
     clear c4
     by_cases c5 : x4_1.length < 4398046511104
     ·rw [if_pos c5] at H
      have LMc5 := Aside0.mk c5
      clear c5
      obtain ⟨y307, hy307⟩ : ∃ y_ : List (S25), y_ = (x4_1 ++ [(⟨t300, t301⟩ : S25)]) := ⟨_, rfl⟩
      replace H : (keyeventref04_Decode.l0 k1 t304 y307 (wrap64 (x5_1 + (t301.length : Int)))) = some (r1, r2) := by first | (rw [hy307]; with_reducible exact H) | (have H2_ := (Option.bind_some _ _).symm.trans H; rw [hy307]; with_reducible exact H2_) | (have H2_ := (Option.bind_some _ _).symm.trans H; with_reducible exact H2_) | with_reducible exact H | (rw [hy307]; exact H) | exact H
      have Ny307 := Aside0.mk hy307
      clear hy307
      have H' := Aside0.mk H
      clear H
      try go_wp2_with (first | ((with_reducible refine gate_callee (f := 38) rfl ?_); refine goesL_ (some 14) rfl rfl Try.func38 (by kernel_rfl) rfl #[.string x0_1] rfl eq_ ?_; (with_reducible refine (keyeventref04_Group.calls k1 x0_1 t300 t301 t304 t305 _ A3.out).mono ?_); rintro e w6 ⟨v302, rfl, ho0, hb⟩; refine ⟨_, rfl, ?_⟩; replace HO_4 := Aside0.mk (Kd.S_elder' (qS HO_4.out) (Kd.R_base ho0) hb); have HO303 := Aside0.mk (Kd.R_lower ho0 (below_size (hq HB.out))); replace HB := Aside0.mk (below_step (hq HB.out) hb); (try clear hb); (try clear ho0)) | ((with_reducible refine gate_dst (N := 6) rfl ?_); refine box_event ?hg (N := 6) ?hd (cs := #[.int .i64 0, .slice none 0 0]) (t := 25) ?hr ?_; (case hd => rfl); (case hg => rfl); (case hr => first | (go_simp; done) | (go_simp; rfl)); intro gb306 hg w7 hbox hb; replace HO_4 := Aside0.mk (Kd.S_below (Kd.S_elderB (qS HO_4.out) gb306 (Nat.le_of_eq hg.symm)) hb); replace HO303 := Aside0.mk (Kd.R_below (qR HO303.out) hb); have BK306 := Aside0.mk (hbox); have GW306 := Aside0.mk ((by rw [hg]; exact (below_size (hq HB.out)) : w.heap.size ≤ gb306)); have GE306 := Aside0.mk ((by rw [hg]; exact (below_size (hq HB.out)) : w.heap.size ≤ gb306)); replace HB := Aside0.mk (below_step (hq HB.out) hb); clear hb hbox hg; have hcz8_0 : w7.cell? ⟨gb306, 0, none⟩ = some (.int .i64 0) := (blk_cell BK306.out 0).trans rfl; have hcz8_1 : w7.cell? ⟨gb306, 1, none⟩ = some (.slice none 0 0) := (blk_cell BK306.out 1).trans rfl; have hfz8_0 := blk_frozen BK306.out 0; have hfz8_1 := blk_frozen BK306.out 1; obtain ⟨Ao9, co9, eo9⟩ := Kd.R_slice HO303.out; subst eo9))
      have n0_ : Aside0 (Kd.S k25 25 ((w7.setCell ⟨gb306, 0, none⟩ (.int .i64 t300)).setCell ⟨gb306, 1, none⟩ (.slice Ao9 t301.length co9)) w.heap.size (fun k_ => some k_ ≠ (.slice Ao9 t301.length co9 : Value).ownBlock ∧ k_ ≠ gb306) u4 x4_1) := ⟨by (with_reducible repeat (first | apply Kd.S_alloc | apply Kd.S_drewN | apply Kd.S_drew)); exact Kd.S_mono (Kd.S_far (p := ⟨gb306, 1, none⟩) (Kd.S_far (p := ⟨gb306, 0, none⟩) (Kd.S_mono HO_4.out (fun k_ hk => (⟨hk, hk.2⟩ : _ ∧ k_ ≠ gb306))) (fun _ hk => hk.2) (.int .i64 t300)) (fun _ hk => hk.2) (.slice Ao9 t301.length co9)) (fun _ hk => ⟨hk.1.1.2, hk.1.2⟩)⟩
      have n1_ : Aside0 (Kd.R k27 27 ((w7.setCell ⟨gb306, 0, none⟩ (.int .i64 t300)).setCell ⟨gb306, 1, none⟩ (.slice Ao9 t301.length co9)) w.heap.size (fun _ => True) (.slice Ao9 t301.length co9) t301) := ⟨by (with_reducible repeat (first | apply Kd.R_alloc | apply Kd.R_drewN | apply Kd.R_drew)); exact Kd.R_mono (Kd.R_far (p := ⟨gb306, 1, none⟩) (Kd.R_far (p := ⟨gb306, 0, none⟩) (Kd.R_types HO303.out BK306.out (by decide)) (fun _ hk => hk.2) (.int .i64 t300)) (fun _ hk => hk.2) (.slice Ao9 t301.length co9)) (fun _ hk => trivial)⟩
      have n2_ : Aside0 (((w7.setCell ⟨gb306, 0, none⟩ (.int .i64 t300)).setCell ⟨gb306, 1, none⟩ (.slice Ao9 t301.length co9)).heap[gb306]? = some (.cells #[.int .i64 t300, .slice Ao9 t301.length co9] 25 (0, 0))) := ⟨by (with_reducible repeat (first | refine blk_drewN ?_ _ | refine blk_drew ?_ | refine blk_alloc ?_ _)); refine blk_put (cs := #[.int .i64 t300, .slice none 0 0]) ?_ 1 _ rfl; (with_reducible repeat (first | refine blk_drewN ?_ _ | refine blk_drew ?_ | refine blk_alloc ?_ _)); refine blk_put (cs := #[.int .i64 0, .slice none 0 0]) ?_ 0 _ rfl; (with_reducible repeat (first | refine blk_drewN ?_ _ | refine blk_drew ?_ | refine blk_alloc ?_ _)); exact BK306.out⟩
      have n3_ : Aside0 (Below w.heap.size w ((w7.setCell ⟨gb306, 0, none⟩ (.int .i64 t300)).setCell ⟨gb306, 1, none⟩ (.slice Ao9 t301.length co9))) := ⟨hq1 HB.out GE306.out⟩
      (try clear HO_4)
      (try clear HO303)
      (try clear BK306)
      (try clear HB)
      generalize ((w7.setCell ⟨gb306, 0, none⟩ (.int .i64 t300)).setCell ⟨gb306, 1, none⟩ (.slice Ao9 t301.length co9)) = w10 at n0_ n1_ n2_ n3_ ⊢
      have HO_4 := n0_
      have HO303 := n1_
      have BK306 := n2_
      have HB := n3_
      clear n0_ n1_ n2_ n3_
      replace HO_4 := Aside0.mk (Kd.S_drew HO_4.out)
      replace HO303 := Aside0.mk (Kd.R_drew HO303.out)
      replace BK306 := Aside0.mk (blk_drew BK306.out)
      replace HB := Aside0.mk (below_drew1 HB.out)
      refine start_ (n := 13) (S := fun w' => w'.cell? ⟨gb306, 0, none⟩ = some (.int .i64 t300) ∧ w'.cell? ⟨gb306, 1, none⟩ = some (.slice Ao9 t301.length co9)) (ds := []) #[false,false,false,false,false,false,false,false,false,false,false,false,false] (by kernel_rfl) rfl rfl ⟨(blk_cell BK306.out 0).trans rfl, (blk_cell BK306.out 1).trans rfl⟩ (fun hHeld => ?_); refine with_tabW keyeventref04_Decode.tab7 keyeventref04_Decode.bits7 (fun HT_ HW_ => ?_)
      generalize w10.drew = w11 at HO_4 HO303 BK306 HB hHeld ⊢
      refine pure_ (i := 0) (N := some 21) (v := ?_) (a' := ?_) #[true,false,false,false,false,false,false,false,false,false,false,false,false] rfl rfl (any_of HT_.out (by kernel_rfl)) (fun _ _ _ h => h) (Or.inl ⟨by rfl, pv⟩) pp ?_
      refine pure_ (i := 4) (N := some 25) (v := ?_) (a' := ?_) #[true,false,false,false,true,false,false,false,false,false,false,false,false] rfl rfl (any_of HT_.out (by kernel_rfl)) (fun _ _ _ h => h) (Or.inl ⟨by rfl, pv⟩) pp ?_
      refine pure_ (i := 5) (N := some 26) (v := ?_) (a' := ?_) #[true,false,false,false,true,true,false,false,false,false,false,false,false] rfl rfl (any_of HT_.out (by kernel_rfl)) (fun _ _ _ h => h) (Or.inl ⟨by rfl, pv⟩) pp ?_
      refine pure_ (i := 6) (N := some 27) (v := ?_) (a' := ?_) #[true,false,false,false,true,true,true,false,false,false,false,false,false] rfl rfl (any_of HT_.out (by kernel_rfl)) (fun _ _ _ h => h) (Or.inl ⟨by rfl, pv⟩) pp ?_
      refine take_ (i := 1) (N := some 22) (v := ?_) (a' := ?_) #[true,true,false,false,true,true,true,false,false,false,false,false,false] rfl rfl (take_ofW HT_.out HW_.out (by kernel_rfl)) (fun _ _ _ h => h) (Or.inl ⟨by rfl, by rintro w' ⟨s0, s1⟩; go_simp; with_reducible rfl⟩) hHeld pp ?_
      refine take_ (i := 7) (N := some 28) (v := ?_) (a' := ?_) #[true,true,false,false,true,true,true,true,false,false,false,false,false] rfl rfl (take_ofW HT_.out HW_.out (by kernel_rfl)) (fun _ _ _ h => h) (Or.inl ⟨by rfl, by rintro w' ⟨s0, s1⟩; go_simp; with_reducible rfl⟩) hHeld pp ?_
      refine pure_ (i := 8) (N := some 29) (v := ?_) (a' := ?_) #[true,true,false,false,true,true,true,true,true,false,false,false,false] rfl rfl (any_of HT_.out (by kernel_rfl)) (fun _ _ _ h => h) (Or.inl ⟨by rfl, pv⟩) pp ?_
      refine pure_ (i := 9) (N := some 30) (v := ?_) (a' := ?_) #[true,true,false,false,true,true,true,true,true,true,false,false,false] rfl rfl (any_of HT_.out (by kernel_rfl)) (fun _ _ _ h => h) (Or.inl ⟨by rfl, pv⟩) pp ?_
      refine one_ (i := 2) (N := some 23) #[true,true,true,false,true,true,true,true,true,true,false,false,false] rfl rfl (one_of HT_.out (by kernel_rfl)) (by decide) (fun K hK => ?_)
      refine value_ (w1 := ?_) (v := ?_) (by rfl) rfl ?_ ?_
      rotate_left 2
      ·go_simp
       constructor
       ·rfl
       ·rfl
      refine hK.out _ _ ⟨(blk_cell (blk_alloc BK306.out _) 0).trans rfl, (blk_cell (blk_alloc BK306.out _) 1).trans rfl⟩ (fun hHeld => ?_)
      clear hK K
      refine norm_ (a' := ?_) (show Act.put _ (some 23) _ = _ from pp) ?_
      refine one_ (i := 3) (N := some 24) #[true,true,true,true,true,true,true,true,true,true,false,false,false] rfl rfl (one_of HT_.out (by kernel_rfl)) (by decide) (fun K hK => ?_)
      refine Kd.S_append_step k25 (w0 := w) w.heap.size (by rfl) (.tmp 21) (.tmp 23) 22 25 (.agg #[(.int .i64 0), (.slice none 0 0)]) 32 rfl Try.underlying22 info25 rfl (by decide) (by omega) u4 x4_1 (⟨t300, t301⟩ : S25) [.int .i64 t300, .slice Ao9 t301.length co9] (fun k_ => k_ ≠ gb306) (fun k_ => some k_ = (.slice Ao9 t301.length co9 : Value).ownBlock) rfl rfl ?aP (fun k_ hk_ => ((Kd.R_mono (ok' := fun k_ => ((fun k_ => k_ ≠ gb306)) k_ ∧ some k_ ≠ (u4 : Value).ownBlock) (Kd.R_types (Kd.R_apart' (HO303.out) (Kd.S_typed HO_4.out) (by decide)) BK306.out (by decide)) (fun k_ hk => ⟨hk.2, hk.1.2⟩))).1 k_ hk_.symm) ?aF ?aO ?aB ?aS ?aL ?_
      (case aP => exact k25_mkM _ _ _ (⟨t300, t301⟩ : S25) (Kd.R_mono (Kd.R_tight rfl (Kd.R_mono (ok' := fun k_ => ((fun k_ => k_ ≠ gb306)) k_ ∧ some k_ ≠ (u4 : Value).ownBlock) (Kd.R_types (Kd.R_apart' (HO303.out) (Kd.S_typed HO_4.out) (by decide)) BK306.out (by decide)) (fun k_ hk => ⟨hk.2, hk.1.2⟩))) (fun _ h_ => h_)))
      (case aB => exact (hq1 HB.out GE306.out))
      (case aF => exact (fun k_ hk => Kd.freshB (g := gb306) (o := .cells #[.int .i64 t300, .slice Ao9 t301.length co9] 25 (0, 0)) (bq BK306.out) k_ hk))
      (case aO => exact (by (with_reducible repeat (first | apply Kd.S_alloc | apply Kd.S_drewN | apply Kd.S_drew)); exact Kd.S_mono HO_4.out (fun k_ hk => ⟨hk.2, fun e_ => hk.1 e_⟩)))
      (case aS => exact (below_size (hq1 HB.out GE306.out)))
      (case aL => have := LMc5.out; omega)
      intro v308 w12 ho hb hg hat
      rw [← Ny307.out] at ho
      have n0_ := Aside0.mk (blk_grown (g := gb306) (o := .cells #[.int .i64 t300, .slice Ao9 t301.length co9] 25 (0, 0)) (bq BK306.out) hg (Kd.S_away HO_4.out (fun _ hk => hk.2)))
      have n1_ := Aside0.mk (hb)
      have n2_ := Aside0.mk (ho)
      clear BK306
      clear HB
      clear HO_4
      clear HO303
      have BK306 := n0_
      have HB := n1_
      have HO309 := n2_
      clear n0_ n1_ n2_
      clear ho hb hg hat
      refine hK.out _ _ ⟨(blk_cell BK306.out 0).trans rfl, (blk_cell BK306.out 1).trans rfl⟩ (fun hHeld => ?_)
      clear hK K
      refine norm_ (a' := ?_) (show Act.put _ (some 24) _ = _ from pp) ?_
      refine pure_ (i := 10) (N := some 4) (v := ?_) (a' := ?_) #[true,true,true,true,true,true,true,true,true,true,true,false,false] rfl rfl (any_of HT_.out (by kernel_rfl)) (fun _ _ _ h => h) (Or.inl ⟨by rfl, pv⟩) pp ?_
      refine pure_ (i := 11) (N := some 0) (v := ?_) (a' := ?_) #[true,true,true,true,true,true,true,true,true,true,true,true,false] rfl rfl (any_of HT_.out (by kernel_rfl)) (fun _ _ _ h => h) (Or.inl ⟨by rfl, pv⟩) pp ?_
      refine pure_ (i := 12) (N := some 5) (v := ?_) (a' := ?_) #[true,true,true,true,true,true,true,true,true,true,true,true,true] rfl rfl (any_of HT_.out (by kernel_rfl)) (fun _ _ _ h => h) (Or.inl ⟨by rfl, pv⟩) pp ?_
      refine done_ (done_of HT_.out (by kernel_rfl)) ?_
      try go_wp2
      go_roundg k1
      case measure => have := HK1.out; omega
      case rel => exact ⟨(t304), (y307), (wrap64 (x5_1 + (t301.length : Int))), dq, dq, H', ⟨by have := HK1.out; omega⟩, ⟨by (with_reducible repeat (first | apply Kd.S_alloc | apply Kd.S_drewN | apply Kd.S_drew)); exact Kd.S_mono HO309.out (fun _ hk => trivial)⟩, ⟨hq1 HB.out GE306.out⟩⟩
     ·rw [if_neg c5] at H
      exact absurd H (by simp)
    ·rw [if_neg c4] at H
     have c4b0 : (t305 == 0) = false := beq_eq_false_iff_ne.mpr c4
     have c4b1 : (t305 != 0) = true := bne_iff_ne.mpr c4
     simp only [Option.some.injEq, Prod.mk.injEq] at H
     obtain ⟨rfl, rfl⟩ := H
     go_wp2_with (first | ((with_reducible refine gate_callee (f := 38) rfl ?_); refine goesL_ (some 14) rfl rfl Try.func38 (by kernel_rfl) rfl #[.string x0_1] rfl eq_ ?_; (with_reducible refine (keyeventref04_Group.calls k1 x0_1 t300 t301 t304 t305 _ A3.out).mono ?_); rintro e w13 ⟨v302, rfl, ho0, hb⟩; refine ⟨_, rfl, ?_⟩; replace HO_4 := Aside0.mk (Kd.S_elder' (qS HO_4.out) (Kd.R_base ho0) hb); have HO303 := Aside0.mk (Kd.R_lower ho0 (below_size (hq HB.out))); replace HB := Aside0.mk (below_step (hq HB.out) hb); (try clear hb); (try clear ho0)) | ((with_reducible refine gate_dst (N := 6) rfl ?_); refine box_event ?hg (N := 6) ?hd (cs := #[.int .i64 0, .slice none 0 0]) (t := 25) ?hr ?_; (case hd => rfl); (case hg => rfl); (case hr => first | (go_simp; done) | (go_simp; rfl)); intro gb306 hg w14 hbox hb; replace HO_4 := Aside0.mk (Kd.S_below (Kd.S_elderB (qS HO_4.out) gb306 (Nat.le_of_eq hg.symm)) hb); replace HO303 := Aside0.mk (Kd.R_below (qR HO303.out) hb); have BK306 := Aside0.mk (hbox); have GW306 := Aside0.mk ((by rw [hg]; exact (below_size (hq HB.out)) : w.heap.size ≤ gb306)); have GE306 := Aside0.mk ((by rw [hg]; exact (below_size (hq HB.out)) : w.heap.size ≤ gb306)); replace HB := Aside0.mk (below_step (hq HB.out) hb); clear hb hbox hg; have hcz15_0 : w14.cell? ⟨gb306, 0, none⟩ = some (.int .i64 0) := (blk_cell BK306.out 0).trans rfl; have hcz15_1 : w14.cell? ⟨gb306, 1, none⟩ = some (.slice none 0 0) := (blk_cell BK306.out 1).trans rfl; have hfz15_0 := blk_frozen BK306.out 0; have hfz15_1 := blk_frozen BK306.out 1; obtain ⟨Ao16, co16, eo16⟩ := Kd.R_slice HO303.out; subst eo16))
     go_ret2
     exact ⟨_, rq_, by first | exact Kd.S_nil _ _ _ _ _ | exact Kd.N_nil _ _ _ _ _ | exact Kd.V_nil _ _ _ _ _ | exact Kd.Q_nil _ _ _ _ _ | exact Kd.R_nil _ _ _ _ _, hq1 HB.out GE306.out⟩
   ·rw [if_neg c2] at H
    have c2b0 := decide_eq_false c2
    have c2b1 : decide (0 < x0_1.size) = false := decide_eq_false (by omega)
    clear c2
    by_cases c17 : x5_1 > 1024
    ·rw [if_pos c17] at H
     have c17b0 := decide_eq_true c17
     clear c17
     simp only [Option.some.injEq, Prod.mk.injEq] at H
     obtain ⟨rfl, rfl⟩ := H
     go_wp2
     go_ret2
     exact ⟨_, rq_, by first | exact Kd.S_nil _ _ _ _ _ | exact Kd.N_nil _ _ _ _ _ | exact Kd.V_nil _ _ _ _ _ | exact Kd.Q_nil _ _ _ _ _ | exact Kd.R_nil _ _ _ _ _, hq HB.out⟩
    ·rw [if_neg c17] at H
     have c17b0 := decide_eq_false c17
     clear c17
     simp only [Option.some.injEq, Prod.mk.injEq] at H
     obtain ⟨rfl, rfl⟩ := H
     go_wp2
     go_ret2
     exact ⟨_, rq_, by (with_reducible repeat (first | apply Kd.S_alloc | apply Kd.S_drewN | apply Kd.S_drew)); exact HO_4.out, hq HB.out⟩

end Go.Proofs.Ytookjdhfpbmjkaa.X
