-- Written by xprint.py, a program of this repo that leads the kit's print.py: Lean checks it.
import Derived.Test.YtookjdhfpbmjkaaX0
import Derived.Test.YtookjdhfpbmjkaaX2
import Derived.Test.YtookjdhfpbmjkaaX3
import Derived.Test.YtookjdhfpbmjkaaX4
namespace Go.Proofs.Ytookjdhfpbmjkaa.X
open Go.RowKit Go.Proofs.YtookjdhfpbmjkaaW.PrintWords Go.Proofs.YtookjdhfpbmjkaaW.PrintLast Go.Proofs.YtookjdhfpbmjkaaW.PrintMore
attribute [local go_sem] max2_int min2_int max_two min_two max_three min_three max_four min_four   -- for this text's walks alone
set_option linter.unusedVariables false
set_option linter.unusedSimpArgs false

/-! ### strings_HasPrefix: function 66 -/
def strings_HasPrefix.f (a0 : ByteArray) (a1 : ByteArray) : Option (Bool) := (stringslite_HasPrefix.f a0 a1).bind fun t125 => (some t125)
set_option maxHeartbeats 8000000 in
set_option maxRecDepth 100000 in
theorem strings_HasPrefix.calls (a0 : ByteArray) (a1 : ByteArray) (r : Bool) (w : World) (h : strings_HasPrefix.f a0 a1 = some r) :
    Calls Try.prog 66 #[.string a0, .string a1] w fun e w' => e = .returned (.bool r) ∧ Drawn0 w w' := by
 have H : ((stringslite_HasPrefix.f a0 a1).bind fun t125 => (some t125)) = some r := h
 clear h
 obtain ⟨t125, A3, H⟩ := bindS H
 obtain rfl := Option.some.inj H
 go_enter Try.func66, Try.ntmps66
 go_wp2_with (first | ((with_reducible refine gate_callee (f := 76) rfl ?_); refine goesL_ (some 7) rfl rfl Try.func76 (by kernel_rfl) rfl #[.string a0, .string a1] rfl eq_ ?_; (with_reducible refine (stringslite_HasPrefix.calls a0 a1 t125 _ A3.out).mono ?_); rintro e w' ⟨rfl, ⟨nd, rfl⟩⟩; refine ⟨_, rfl, ?_⟩))
 go_ret
 exact ⟨by first | rfl | (simp; done) | (simp [*]; done), by repeat (first | exact Drawn0.refl _ | apply Drawn0.step)⟩

-- NOT PRINTED: function 82 (bytealg_MakeNoZero)

-- NOT PRINTED: function 77 (strings_Builder_grow)

-- NOT PRINTED: function 67 (strings_Builder_Grow)

-- NOT PRINTED: function 68 (strings_Builder_Len)

/-! ### strings_Repeat: function 53 -/
def strings_Repeat.f (a0 : ByteArray) (a1 : Int) : Option ByteArray := if 0 ≤ a1 ∧ a1 ≤ 9223372036854775807 ∧ a0.size * a1.toNat ≤ 140737488355328 then some ⟨(Lib.repeatL a0.data.toList a1.toNat).toArray⟩ else none
theorem strings_Repeat.calls (a0 : ByteArray) (a1 : Int) (r : ByteArray) (w : World) (h : strings_Repeat.f a0 a1 = some r) :
    Calls Try.prog 53 #[.string a0, .int .i64 a1] w fun e w' => e = .returned (.string r) ∧ Below w.heap.size w w' := by
  unfold strings_Repeat.f at h
  by_cases hr : 0 ≤ a1 ∧ a1 ≤ 9223372036854775807 ∧ a0.size * a1.toNat ≤ 140737488355328
  · rw [if_pos hr] at h
    obtain ⟨h0, h1, h2⟩ := hr
    simp only [Option.some.injEq] at h
    subst h
    obtain ⟨m, rfl⟩ := Int.eq_ofNat_of_zero_le h0
    simp only [Int.toNat_natCast] at h2 ⊢
    exact Try.strings_Repeat a0 m w (by omega) h2
  · rw [if_neg hr] at h
    cases h

/-! ### primitive_form_lead: function 54 -/
def primitive_form_lead.f (a0_0 : ByteArray) (a0_1 : Int) : Option (Int) := some (Int.tmod (wrap64 (3 - (Int.tmod a0_1 3))) 3)
set_option maxHeartbeats 8000000 in
set_option maxRecDepth 100000 in
theorem primitive_form_lead.calls (a0_0 : ByteArray) (a0_1 : Int) (r : Int) (w : World) (h : primitive_form_lead.f a0_0 a0_1 = some r) :
    Calls Try.prog 54 #[.agg #[.string a0_0, .int .i64 a0_1]] w fun e w' => e = .returned (.int .i64 r) ∧ Below w.heap.size w w' := by
 have hu83 := Try.underlying83
 have HB := Aside0.mk (Below.refl w.heap.size w)
 have H : (some (Int.tmod (wrap64 (3 - (Int.tmod a0_1 3))) 3)) = some r := h
 clear h
 obtain rfl := Option.some.inj H
 go_enter Try.func54, Try.ntmps54
 go_wp2_with (first | ((with_reducible refine gate_dst (N := 1) rfl ?_); refine box_event ?hg (N := 1) ?hd (cs := #[.string a0_0, .int .i64 a0_1]) (t := 83) ?hr ?_; (case hd => rfl); (case hg => rfl); (case hr => first | (go_simp; done) | (go_simp; rfl)); intro gb126 hg w2 hbox hb; have BK126 := Aside0.mk (hbox); have GW126 := Aside0.mk ((by rw [hg]; exact (below_size (hq HB.out)) : w.heap.size ≤ gb126)); have GE126 := Aside0.mk ((by rw [hg]; exact (below_size (hq HB.out)) : w.heap.size ≤ gb126)); replace HB := Aside0.mk (below_step (hq HB.out) hb); clear hb hbox hg; have hcz3_0 : w2.cell? ⟨gb126, 0, none⟩ = some (.string a0_0) := (blk_cell BK126.out 0).trans rfl; have hcz3_1 : w2.cell? ⟨gb126, 1, none⟩ = some (.int .i64 a0_1) := (blk_cell BK126.out 1).trans rfl; have hfz3_0 := blk_frozen BK126.out 0; have hfz3_1 := blk_frozen BK126.out 1))
 go_ret
 exact ⟨rq_, hq1 HB.out GE126.out⟩

/-! ### primitive_Encode: function 33 -/
def primitive_Encode.f (k : Nat) (a0_0 : Int) (a0_1 : ByteArray) : Option (ByteArray × Int) :=
  if formOk a0_0 = true then (if (a0_1.size : Int) = formRaw a0_0 then (primitive_form_lead.f (formCode a0_0) (formRaw a0_0)).bind fun l => (strings_Repeat.f ⟨#[0]⟩ l).bind fun z =>
    (if z.size + a0_1.size ≤ 9223372036854775807 then (base64_Encode.f k (z ++ a0_1)).bind fun b => (if 0 ≤ l ∧ l ≤ (b.1.size : Int) ∧ (formCode a0_0).size + (b.1.extract l.toNat b.1.size).size ≤ 9223372036854775807 then some (formCode a0_0 ++ b.1.extract l.toNat b.1.size, 0) else none) else none)
    else some (⟨#[]⟩, 8)) else some (⟨#[]⟩, 7)
theorem primitive_Encode.mono : ∀ a0 a1 k, LeO (primitive_Encode.f k a0 a1) (primitive_Encode.f (k + 1) a0 a1) := by
  intro a0 a1 k
  unfold primitive_Encode.f
  repeat' first
      | (with_reducible exact base64_Encode.mono _ _)
      | (with_reducible exact LeO.refl _)
      | (with_reducible refine LeO.ite ?_ ?_)
      | (with_reducible refine LeO.bind ?_ (fun _ => ?_))
set_option maxHeartbeats 4000000 in
set_option maxRecDepth 100000 in
theorem primitive_Encode.callsA (k : Nat) (a0_0 : Int) (a0_1 : ByteArray) (w : World) (s : ByteArray) (n : Int) (ok : Bool) (l : Int) (z b : ByteArray) (be : Int) (R : Ending → World → Prop)
    (hrun : ok = true → (a0_1.size : Int) = n → primitive_form_lead.f s n = some l ∧ strings_Repeat.f ⟨#[0]⟩ l = some z ∧ z.size + a0_1.size ≤ 9223372036854775807 ∧ base64_Encode.f k (z ++ a0_1) = some (b, be) ∧ 0 ≤ l ∧ l ≤ (b.size : Int) ∧ s.size + (b.extract l.toNat b.size).size ≤ 9223372036854775807)
    (hyes : ok = true → (a0_1.size : Int) = n → ∀ w', Below w.heap.size w w' → R (.returned (.tuple #[.string (s ++ b.extract l.toNat b.size), .int .i64 0])) w')
    (he8 : ok = true → (a0_1.size : Int) ≠ n → ∀ w', Below w.heap.size w w' → R (.returned (.tuple #[.string ⟨#[]⟩, .int .i64 8])) w')
    (hs : formCode a0_0 = s) (hn : formRaw a0_0 = n) (hk : formOk a0_0 = ok)
    (hno : ok = false → ∀ w', Below w.heap.size w w' → R (.returned (.tuple #[.string ⟨#[]⟩, .int .i64 7])) w') :
    Calls Try.prog 33 #[.agg #[.int .i64 a0_0, .string a0_1]] w R := by
  have hl := fun (W : World) (b : Nat) (hb : W.heap[b]? = some (.map formsMap 8)) => forms_lookAt hb a0_0
  unfold formVal at hl
  rw [hs, hn, hk] at hl
  clear hs hn hk
  have HR := Aside0.mk hrun
  clear hrun
  have HN := Aside0.mk hno
  have HY := Aside0.mk hyes
  have HE8 := Aside0.mk he8
  clear hno hyes he8
  have e1 := hl ((w.alloc (.cells #[.int .i64 a0_0, .string a0_1] 27)).alloc (.map formsMap 8)) (w.heap.size + 1) (alloc_at _ _ (by simp))
  have e1d := hl ((w.alloc (.cells #[.int .i64 a0_0, .string a0_1] 27)).alloc (.map formsMap 8)).drew (w.heap.size + 1) (alloc_at (w.alloc (.cells #[.int .i64 a0_0, .string a0_1] 27)) _ (by simp))
  have e2 := hl (((w.alloc (.cells #[.int .i64 a0_0, .string a0_1] 27)).alloc (.cells #[.string ⟨#[]⟩, .int .i64 0] 83)).alloc (.map formsMap 8)).drew (w.heap.size + 1 + 1) (alloc_at ((w.alloc (.cells #[.int .i64 a0_0, .string a0_1] 27)).alloc (.cells #[.string ⟨#[]⟩, .int .i64 0] 83)) _ (by simp))
  have e3 := hl (((w.alloc (.cells #[.int .i64 a0_0, .string a0_1] 27)).alloc (.map formsMap 8)).alloc (.cells #[.string ⟨#[]⟩, .int .i64 0] 83)).drew (w.heap.size + 1) (alloc_old _ (alloc_at (w.alloc (.cells #[.int .i64 a0_0, .string a0_1] 27)) _ (by simp)))
  clear hl
  go_enter Try.func33, Try.ntmps33
  go_upto_region 1 with fail
  go_cut [4,5] (fun s4 s5 wx => ∃ g : Nat, s4 = .pointer (some ⟨g, 0, none⟩) ∧ s5 = .bool ok ∧ w.heap.size < g ∧ wx.heap[g]? = some (.cells #[.string s, .int .i64 n] 83 (0, 0)) ∧ wx.heap[w.heap.size]? = some (.cells #[.int .i64 a0_0, .string a0_1] 27 (0, 0)) ∧ Below w.heap.size w wx)
  case first =>
    go_region_with (first | (go_at_call 51; refine (forms_any _).mono ?_; rintro e w' ⟨rfl, rfl⟩))
    all_goals
      go_wp2_with fail
      go_meet
      refine ⟨_, rfl, rfl, by omega, ?_, ?_, ?_⟩
      · first | exact alloc_at _ _ (by simp) | exact alloc_old _ (alloc_at _ _ (by simp)) | exact alloc_at ((w.alloc _).alloc _) _ (by simp) | exact alloc_old _ (alloc_at (w.alloc _) _ (by simp))
      · first | exact alloc_old _ (alloc_old _ (alloc_at _ _ rfl)) | exact alloc_old (w := (w.alloc _).alloc _) _ (alloc_old _ (alloc_at _ _ rfl))
      · repeat (first | exact Below.refl _ _ | apply below_alloc | apply pw_below_drewN | apply below_drew1)
  case rest =>
    obtain ⟨g, rfl, rfl, hg, h4, h1, hB⟩ := hcut
    have c41 := cell_of wc h4 (i := 1) rfl
    have c40 := cell_of wc h4 (i := 0) rfl
    have c11 := cell_of wc h1 (i := 1) rfl
    cases ok with
    | false =>
      go_wp2_with fail
      exact HN.out trivial _ hB
    | true =>
      by_cases hsz : (a0_1.size : Int) = n
      · have HSZ := Aside0.mk hsz
        have b0 : ((a0_1.size : Int) != n) = false := bne_eq_false_iff_eq.mpr hsz
        clear hsz
        obtain ⟨hL, hZ, hzs, hE, hl0, hl1, hbs⟩ := HR.out rfl HSZ.out
        have HLL := Aside0.mk hL
        have HZZ := Aside0.mk hZ
        have HEE := Aside0.mk hE
        have z0 : (9223372036854775807 < z.size + a0_1.size) = False := eq_false (by omega)
        clear hL hZ hE e1 e1d e2 e3
        have HB := Aside0.mk hB
        have hg1 := (Array.getElem?_eq_some_iff.1 h4).1
        have hw1 : w.heap.size < wc.heap.size := (Array.getElem?_eq_some_iff.1 h1).1
        have HSS := Aside0.mk (show ∀ w' : World, Below wc.heap.size wc w' → (w'.cell? ⟨g, 0, none⟩ = some (.string s) ∧ w'.cell? ⟨g, 1, none⟩ = some (.int .i64 n) ∧ w'.cell? ⟨w.heap.size, 1, none⟩ = some (.string a0_1) ∧ Below wc.heap.size wc w') from fun w' hb =>
          ⟨(hb.cell (p := ⟨g, 0, none⟩) hg1).trans c40, (hb.cell (p := ⟨g, 1, none⟩) hg1).trans c41, (hb.cell (p := ⟨w.heap.size, 1, none⟩) hw1).trans c11, hb⟩)
        go_upto_region 6 with fail
        go_cut [6,7] (fun s6 s7 wx => s6 = .string b ∧ s7 = .int .i64 be ∧ wx.heap[g]? = some (.cells #[.string s, .int .i64 n] 83 (0, 0)) ∧ Below w.heap.size w wx)
        case first =>
          go_region_held3 (fun w' => w'.cell? ⟨g, 0, none⟩ = some (.string s) ∧ w'.cell? ⟨g, 1, none⟩ = some (.int .i64 n) ∧ w'.cell? ⟨w.heap.size, 1, none⟩ = some (.string a0_1) ∧ Below wc.heap.size wc w') ((refine HSS.out _ ?_; go_split_ands; first | assumption | exact (Below.refl _ _).drew | (refine Below.drew ?_; assumption) | (refine Below.trans ?_ (Below.mono hb0 ?_); assumption; exact Below.size (show Below wc.heap.size wc _ by assumption)) | (refine Below.trans ?_ (Below.mono hb1 ?_); assumption; exact Below.size (show Below wc.heap.size wc _ by assumption)) | (refine Below.trans ?_ (Below.mono hb2 ?_); assumption; exact Below.size (show Below wc.heap.size wc _ by assumption))))
            (first
              | (go_at_call 54; refine (primitive_form_lead.calls s n l _ HLL.out).mono ?_; rintro e w' ⟨rfl, hb0⟩)
              | (go_at_call 53; refine (strings_Repeat.calls _ l z _ HZZ.out).mono ?_; rintro e w' ⟨rfl, hb1⟩)
              | (go_at_call 52; refine (base64_Encode.calls k _ b be _ HEE.out).mono ?_; rintro e w' ⟨rfl, hb2⟩))
          all_goals
            go_wp2_with fail
            go_meet
            go_split_ands
            exact ⟨rfl, rfl, below_old (B := wc.heap.size) (w := wc) (by assumption) h4 hg1, HB.out.trans (Below.mono (B := wc.heap.size) (by assumption) HB.out.size)⟩
        case rest =>
          obtain ⟨rfl, rfl, h4', hB'⟩ := hcut
          have d40 := cell_of wc h4' (i := 0) rfl
          have d41 := cell_of wc h4' (i := 1) rfl
          have HB' := Aside0.mk hB'
          have hg2 := (Array.getElem?_eq_some_iff.1 h4').1
          have HST := Aside0.mk (show ∀ w' : World, Below wc.heap.size wc w' → (w'.cell? ⟨g, 0, none⟩ = some (.string s) ∧ w'.cell? ⟨g, 1, none⟩ = some (.int .i64 n) ∧ Below wc.heap.size wc w') from fun w' hb =>
            ⟨(hb.cell (p := ⟨g, 0, none⟩) hg2).trans d40, (hb.cell (p := ⟨g, 1, none⟩) hg2).trans d41, hb⟩)
          have l0 : (0 ≤ l) = True := eq_true hl0
          have l1 : (l ≤ (b.size : Int)) = True := eq_true hl1
          have l2 : (9223372036854775807 < s.size + (b.size - l.toNat)) = False := eq_false (by rw [ByteArray.size_extract] at hbs; omega)
          go_wp2_with fail
          go_region_held3 (fun w' => w'.cell? ⟨g, 0, none⟩ = some (.string s) ∧ w'.cell? ⟨g, 1, none⟩ = some (.int .i64 n) ∧ Below wc.heap.size wc w') ((refine HST.out _ ?_; go_split_ands; first | assumption | exact (Below.refl _ _).drew | (refine Below.drew ?_; assumption) | (refine Below.trans ?_ (Below.mono hb0 ?_); assumption; exact Below.size (show Below wc.heap.size wc _ by assumption))))
            (first | (go_at_call 54; refine (primitive_form_lead.calls s n l _ HLL.out).mono ?_; rintro e w' ⟨rfl, hb0⟩))
          all_goals
            go_split_ands
            go_wp2_with fail
            refine HY.out trivial HSZ.out _ (HB'.out.trans (Below.mono (B := wc.heap.size) (by assumption) HB'.out.size))
      · have b0 : ((a0_1.size : Int) != n) = true := bne_iff_ne.mpr hsz
        go_wp2_with fail
        exact HE8.out trivial hsz _ hB
theorem primitive_Encode.calls (k : Nat) (a0_0 : Int) (a0_1 : ByteArray) (r1 : ByteArray) (r2 : Int) (w : World) (h : primitive_Encode.f k a0_0 a0_1 = some (r1, r2)) :
    Calls Try.prog 33 #[.agg #[.int .i64 a0_0, .string a0_1]] w fun e w' => e = .returned (.tuple #[.string r1, .int .i64 r2]) ∧ Below w.heap.size w w' := by
  unfold primitive_Encode.f at h
  by_cases ho : formOk a0_0 = true
  · rw [if_pos ho] at h
    by_cases hs : (a0_1.size : Int) = formRaw a0_0
    · rw [if_pos hs] at h
      obtain ⟨l, hl, h⟩ := Option.bind_eq_some_iff.mp h
      obtain ⟨z, hz, h⟩ := Option.bind_eq_some_iff.mp h
      split at h
      · rename_i hzs
        obtain ⟨⟨b, be⟩, hb, h⟩ := Option.bind_eq_some_iff.mp h
        dsimp only at h
        split at h
        · rename_i hc
          simp only [Option.some.injEq, Prod.mk.injEq] at h
          obtain ⟨rfl, rfl⟩ := h
          exact primitive_Encode.callsA k a0_0 a0_1 w _ _ true l z b be _ (fun _ _ => ⟨hl, hz, hzs, hb, hc⟩) (fun _ _ w' hw => ⟨rfl, hw⟩) (fun _ hne => absurd hs hne) rfl rfl ho (fun h => by cases h)
        · cases h
      · cases h
    · rw [if_neg hs] at h
      simp only [Option.some.injEq, Prod.mk.injEq] at h
      obtain ⟨rfl, rfl⟩ := h
      exact primitive_Encode.callsA k a0_0 a0_1 w _ _ true 0 ⟨#[]⟩ ⟨#[]⟩ 0 _ (fun _ he => absurd he hs) (fun _ he => absurd he hs) (fun _ _ w' hw => ⟨rfl, hw⟩) rfl rfl ho (fun h => by cases h)
  · rw [if_neg ho] at h
    simp only [Option.some.injEq, Prod.mk.injEq] at h
    obtain ⟨rfl, rfl⟩ := h
    have ho' : formOk a0_0 = false := by simpa using ho
    exact primitive_Encode.callsA k a0_0 a0_1 w _ _ false 0 ⟨#[]⟩ ⟨#[]⟩ 0 _ (fun h => by cases h) (fun h => by cases h) (fun h => by cases h) rfl rfl ho' (fun _ w' hw => ⟨rfl, hw⟩)

/-! ### stream_Encode: function 8 -/
def stream_Encode.ok (k : Nat) : List S25 → Option Bool
  | [] => some true
  | g :: r => (stream_follows.f k g.f0 g.f1).bind fun b => (stream_Encode.ok k r).bind fun c => some (b && c)
mutual
def stream_Encode.l2 : Nat → ByteArray → List S25 → Nat → Option (ByteArray × Int)
  | 0, _, _, _ => none
  | k + 1, out, l, i => if i < l.length then (if (patOf (rd_T25 l i).f0).length = 0 then none else (stream_Mark.f k (rd_T25 l i).f0 (wrap64 (((rd_T25 l i).f1.length : Int) / ((patOf (rd_T25 l i).f0).length : Int)))).bind fun m => if out.size + m.1.size ≤ 140737488355328 ∧ (rd_T25 l i).f1.length < 4611686018427387904 then stream_Encode.l3 k (out ++ m.1) l i 0 else none) else some (out, 0)
def stream_Encode.l3 : Nat → ByteArray → List S25 → Nat → Nat → Option (ByteArray × Int)
  | 0, _, _, _, _ => none
  | k + 1, out, l, i, j => if j < (rd_T25 l i).f1.length then (primitive_Encode.f k (rd_T27 (rd_T25 l i).f1 j).f0 (rd_T27 (rd_T25 l i).f1 j).f1).bind fun t => (if t.2 = 0 then (if out.size + t.1.size ≤ 140737488355328 then stream_Encode.l3 k (out ++ t.1) l i (j + 1) else none) else some (⟨#[]⟩, t.2)) else stream_Encode.l2 k out l (i + 1)
end
def stream_Encode.f (k : Nat) (l0 : List S25) : Option (ByteArray × Int) :=
  (stream_primitives.f k l0).bind fun n => if n > 1024 then some (⟨#[]⟩, 3) else if l0.length < 4611686018427387904 then (stream_Encode.ok k l0).bind fun b => (if b = true then stream_Encode.l2 k ⟨#[]⟩ l0 0 else some (⟨#[]⟩, 7)) else none
theorem stream_Encode.mono_ok (k : Nat) : ∀ l, LeO (stream_Encode.ok k l) (stream_Encode.ok (k + 1) l)
  | [] => LeO.refl _
  | g :: r => by
    unfold stream_Encode.ok
    exact LeO.bind (stream_follows.mono _ _ _) (fun _ => LeO.bind (stream_Encode.mono_ok k r) (fun _ => LeO.refl _))
theorem stream_Encode.mono_l : ∀ k, (∀ y0 y1 y2, LeO (stream_Encode.l2 k y0 y1 y2) (stream_Encode.l2 (k + 1) y0 y1 y2)) ∧ (∀ y0 y1 y2 y3, LeO (stream_Encode.l3 k y0 y1 y2 y3) (stream_Encode.l3 (k + 1) y0 y1 y2 y3))
  | 0 => ⟨fun _ _ _ r h => by simp [stream_Encode.l2] at h, fun _ _ _ _ r h => by simp [stream_Encode.l3] at h⟩
  | k + 1 => by
    obtain ⟨ih0, ih1⟩ := stream_Encode.mono_l k
    refine ⟨?_, ?_⟩
    · intro y0 y1 y2
      unfold stream_Encode.l2
      repeat' first
      | (with_reducible exact ih0 _ _ _)
      | (with_reducible exact ih1 _ _ _ _)
      | (with_reducible exact stream_Mark.mono _ _ _)
      | (with_reducible exact LeO.refl _)
      | (with_reducible exact LeO.none _)
      | (with_reducible refine LeO.ite ?_ ?_)
      | (with_reducible refine LeO.bind ?_ (fun _ => ?_))
    · intro y0 y1 y2 y3
      unfold stream_Encode.l3
      repeat' first
      | (with_reducible exact ih0 _ _ _)
      | (with_reducible exact ih1 _ _ _ _)
      | (with_reducible exact primitive_Encode.mono _ _ _)
      | (with_reducible exact LeO.refl _)
      | (with_reducible exact LeO.none _)
      | (with_reducible refine LeO.ite ?_ ?_)
      | (with_reducible refine LeO.bind ?_ (fun _ => ?_))
theorem stream_Encode.mono : ∀ a0 k, LeO (stream_Encode.f k a0) (stream_Encode.f (k + 1) a0) := by
  intro a0 k
  obtain ⟨ih0, ih1⟩ := stream_Encode.mono_l k
  have ih2 := stream_Encode.mono_ok k
  unfold stream_Encode.f
  repeat' first
      | (with_reducible exact ih0 _ _ _)
      | (with_reducible exact ih2 _)
      | (with_reducible exact stream_primitives.mono _ _)
      | (with_reducible exact LeO.refl _)
      | (with_reducible exact LeO.none _)
      | (with_reducible refine LeO.ite ?_ ?_)
      | (with_reducible refine LeO.bind ?_ (fun _ => ?_))
theorem stream_Encode.ok_some (k : Nat) : ∀ (l : List S25) (b : Bool), stream_Encode.ok k l = some b → b = !(l.any (fun g => !((stream_follows.f k g.f0 g.f1).getD true))) ∧ ∀ g ∈ l, ∃ c, stream_follows.f k g.f0 g.f1 = some c
  | [], b, h => by simp only [stream_Encode.ok, Option.some.injEq] at h; subst h; simp
  | g :: r, b, h => by
    unfold stream_Encode.ok at h
    obtain ⟨c, hc, h⟩ := Option.bind_eq_some_iff.mp h
    obtain ⟨d, hd, h⟩ := Option.bind_eq_some_iff.mp h
    simp only [Option.some.injEq] at h
    obtain ⟨h1, h2⟩ := stream_Encode.ok_some k r d hd
    refine ⟨?_, ?_⟩
    · rw [← h, List.any_cons, hc, h1]
      cases c <;> simp
    · intro x hx
      rcases List.mem_cons.1 hx with rfl | hx
      · exact ⟨c, hc⟩
      · exact h2 x hx
set_option maxHeartbeats 4000000 in
set_option maxRecDepth 100000 in
theorem stream_Encode.enc1 (a0 : Int) (v : Value) (hv : ∃ A n c, v = .slice A n c) (w : World) (b : Bool)
    (hf : ∀ w1, Below w.heap.size w w1 → Calls Try.prog 31 #[.agg #[.int .i64 a0, v]] w1 fun e w' => e = .returned (.bool b) ∧ Below w1.heap.size w1 w') :
    Calls Try.prog 30 #[.agg #[.int .i64 a0, v]] w fun e w' => e = .returned (.bool !b) ∧ Below w.heap.size w w' := by
  obtain ⟨A, n, c, rfl⟩ := hv
  have HF := Aside0.mk hf
  clear hf
  go_enter Try.func30, Try.ntmps30
  go_wp2_with (go_at_call 31; refine (HF.out _ ?_).mono ?_)
  · exact below_alloc (Below.refl _ _) _
  · rintro e w' ⟨rfl, hb⟩
    go_wp2_with fail
    go_ret
    exact ⟨rfl, (below_alloc (Below.refl _ _) _).trans (Below.mono hb (below_alloc (Below.refl _ _) _).size)⟩
set_option maxHeartbeats 4000000 in
set_option maxRecDepth 100000 in
theorem stream_Encode.idx (A : Option Addr) (c : Nat) (l : List S25) (w : World) (f : S25 → Bool) (hn : l.length < 4611686018427387904) (hr : Kd.C k25 w A l.length l) (hc : l.length ≤ c)
    (hf : ∀ i : Nat, i < l.length → ∀ A1 c1 w1, (rd_T25 l i).f1.length ≤ c1 → Kd.C k27 w1 A1 (rd_T25 l i).f1.length (rd_T25 l i).f1 → Calls Try.prog 31 #[.agg #[.int .i64 (rd_T25 l i).f0, .slice A1 (rd_T25 l i).f1.length c1]] w1 fun e w' => e = .returned (.bool (f (rd_T25 l i))) ∧ Below w1.heap.size w1 w') :
    Calls Try.prog 49 #[.slice A l.length c, .func (.func 30) #[] #[]] w fun e w' => ∃ r : Int, e = .returned (.int .i64 r) ∧ decide (0 ≤ r) = l.any (fun g => !(f g)) ∧ Below w.heap.size w w' := by
  have HR := Aside0.mk hr
  have HF := Aside0.mk hf
  clear hr hf
  have HB := Aside0.mk (Below.refl w.heap.size w)
  go_enter Try.func49, Try.ntmps49
  go_wp2_with fail
  go_loopw [8] (fun s8 w' => ∃ i : Nat, s8 = .int .i64 i ∧ i ≤ l.length ∧ Aside0 (∀ j : Nat, j < i → f (rd_T25 l j) = true) ∧ Aside0 (Below w.heap.size w w')) (fun s8 _ => l.length - (intOf s8).toNat)
  case atStart => exact ⟨0, rfl, Nat.zero_le _, ⟨fun j h => absurd h (Nat.not_lt_zero _)⟩, HB⟩
  case round =>
    clear HB
    obtain ⟨i, rfl, hi, HA, HB⟩ := hrel
    by_cases hlt : i < l.length
    · have b0 : decide ((i : Int) < (l.length : Int)) = true := decide_eq_true (by omega)
      have p0 : (0 : Int) ≤ (i : Int) := by omega
      have q0 : (i : Int) < (l.length : Int) := by omega
      obtain ⟨ad, A1, c1, e1, hx0, hx1, hl1, hi1⟩ := at_T25 HR.out (i : Int) p0 q0
      cases e1
      replace hx0 := (HB.out.cell (World.block_lt_of_cell? w _ hx0)).trans hx0
      replace hx1 := (HB.out.cell (World.block_lt_of_cell? w _ hx1)).trans hx1
      simp only [Int.toNat_natCast] at hx0 hx1
      have HC1 := Aside0.mk (stream_Encode.enc1 (rd_T25 l i).f0 (.slice A1 (rd_T25 l i).f1.length c1) ⟨_, _, _, rfl⟩)
      have hik : ∀ w1, Below wr.heap.size wr w1 → Kd.C k27 w1 A1 (rd_T25 l i).f1.length (rd_T25 l i).f1 := fun w1 h1 => Kd.C_below hi1 (HB.out.trans (h1.mono HB.out.size))
      have HK := Aside0.mk hik
      have HL := Aside0.mk hl1
      clear hi1 hl1 hik
      go_wp2_with (go_at_call 30; refine (stream_Encode.enc1 _ _ ⟨_, _, _, rfl⟩ _ (f (rd_T25 l i)) ?_).mono ?_)
      · exact fun w1 h1 => HF.out i hlt A1 c1 w1 HL.out (HK.out w1 h1)
      · rintro e w1 ⟨rfl, hb⟩
        have HBB := Aside0.mk hb
        clear hb
        cases hfi : f (rd_T25 l (i : Int)) with
        | true =>
          have HFI := Aside0.mk hfi
          clear hfi
          simp only [Bool.not_true]
          have hw : wrap64 ((i : Int) + 1) = ((i + 1 : Nat) : Int) := by unfold wrap64; omega
          go_wp2_with fail
          go_roundw
          case rel => exact ⟨i + 1, by simp, by omega, ⟨fun j h => by
            rcases (show j < i ∨ j = i by omega) with h | rfl
            · exact HA.out j h
            · exact HFI.out⟩, ⟨HB.out.trans (HBB.out.mono HB.out.size)⟩⟩
          case measure => simp [intOf]; omega
        | false =>
          have HFI := Aside0.mk hfi
          clear hfi
          simp only [Bool.not_false]
          go_wp2_with fail
          go_ret
          refine ⟨(i : Int), rfl, ?_, HB.out.trans (HBB.out.mono HB.out.size)⟩
          rw [decide_eq_true (by omega)]
          symm
          rw [List.any_eq_true]
          refine ⟨rd_T25 l (i : Int), ?_, by rw [HFI.out]; rfl⟩
          unfold rd_T25
          rw [Int.toNat_natCast, List.getD, List.getElem?_eq_getElem hlt, Option.getD_some]
          exact List.getElem_mem _
    · have b0 : decide ((i : Int) < (l.length : Int)) = false := decide_eq_false (by omega)
      go_wp2_with fail
      go_ret
      refine ⟨-1, rfl, ?_, HB.out⟩
      rw [decide_eq_false (by omega)]
      symm
      rw [List.any_eq_false]
      intro g hg
      obtain ⟨j, hj, rfl⟩ := List.getElem_of_mem hg
      have := HA.out j (by omega)
      unfold rd_T25 at this
      rw [Int.toNat_natCast, List.getD, List.getElem?_eq_getElem hj, Option.getD_some] at this
      rw [this]
      simp
set_option maxHeartbeats 4000000 in
theorem stream_Encode.anyf (A : Option Addr) (c : Nat) (l : List S25) (w : World) (f : S25 → Bool) (hn : l.length < 4611686018427387904) (hr : Kd.C k25 w A l.length l) (hc : l.length ≤ c)
    (hf : ∀ i : Nat, i < l.length → ∀ A1 c1 w1, (rd_T25 l i).f1.length ≤ c1 → Kd.C k27 w1 A1 (rd_T25 l i).f1.length (rd_T25 l i).f1 → Calls Try.prog 31 #[.agg #[.int .i64 (rd_T25 l i).f0, .slice A1 (rd_T25 l i).f1.length c1]] w1 fun e w' => e = .returned (.bool (f (rd_T25 l i))) ∧ Below w1.heap.size w1 w') :
    Calls Try.prog 29 #[.slice A l.length c, .func (.func 30) #[] #[]] w fun e w' => e = .returned (.bool (l.any (fun g => !(f g)))) ∧ Below w.heap.size w w' := by
  have HI := Aside0.mk (stream_Encode.idx A c l w f hn hr hc hf)
  clear hr hf
  go_enter Try.func29, Try.ntmps29
  go_wp2_with (go_at_call 49; refine HI.out.mono ?_; rintro e w' ⟨r, rfl, hd, hb⟩)
  go_ret
  exact ⟨by rw [← hd]; rfl, hb⟩
set_option maxHeartbeats 8000000 in
set_option maxRecDepth 100000 in
theorem stream_Encode.calls (k : Nat) (A0 : Option Addr) (c0 : Nat) (l0 : List (S25)) (r1 : ByteArray) (r2 : Int) (w : World) (hr0 : Kd.C k25 w A0 l0.length l0) (hc0 : l0.length ≤ c0) (h : stream_Encode.f k l0 = some (r1, r2)) :
    Calls Try.prog 8 #[.slice A0 l0.length c0] w fun e w' => e = .returned (.tuple #[.string r1, .int .i64 r2]) ∧ Below w.heap.size w w' := by
  have hu25 := Try.underlying25
  have hu27 := Try.underlying27
  have HR0 := Aside0.mk hr0
  have HC0 := Aside0.mk hc0
  clear hr0 hc0
  unfold stream_Encode.f at h
  obtain ⟨n, hn, h⟩ := Option.bind_eq_some_iff.mp h
  have HN := Aside0.mk hn
  clear hn
  by_cases hlim : n > 1024
  · rw [if_pos hlim] at h
    simp only [Option.some.injEq, Prod.mk.injEq] at h
    obtain ⟨rfl, rfl⟩ := h
    have b0 : decide (1024 < n) = true := decide_eq_true hlim
    clear hlim
    go_enter Try.func8, Try.ntmps8
    go_wp2_with (go_at_call 28; refine (stream_primitives.calls k _ _ l0 n _ HR0.out HC0.out HN.out).mono ?_; rintro e w' ⟨rfl, hb⟩)
    go_ret2
    exact ⟨rfl, by assumption⟩
  · rw [if_neg hlim] at h
    have b0 : decide (1024 < n) = false := decide_eq_false hlim
    clear hlim
    by_cases hlen : l0.length < 4611686018427387904
    · rw [if_pos hlen] at h
      have HLEN := Aside0.mk hlen
      clear hlen
      obtain ⟨b, hb, h⟩ := Option.bind_eq_some_iff.mp h
      obtain ⟨hb1, hb2⟩ := stream_Encode.ok_some k l0 b hb
      clear hb
      have HANY : Aside0 (∀ w1 : World, Below w.heap.size w w1 → Calls Try.prog 29 #[.slice A0 l0.length c0, .func (.func 30) #[] #[]] w1 fun e w' => e = .returned (.bool !b) ∧ Below w1.heap.size w1 w') := by
        refine ⟨fun w1 hb => ?_⟩
        refine (stream_Encode.anyf A0 c0 l0 w1 (fun g => (stream_follows.f k g.f0 g.f1).getD true) HLEN.out (Kd.C_below HR0.out hb) HC0.out ?_).mono ?_
        · intro i hi A1 c1 w2 hc1 hr1
          have hm : rd_T25 l0 i ∈ l0 := by
            unfold rd_T25
            rw [Int.toNat_natCast, List.getD, List.getElem?_eq_getElem hi, Option.getD_some]
            exact List.getElem_mem _
          obtain ⟨c, hc⟩ := hb2 _ hm
          have := stream_follows.calls k (rd_T25 l0 i).f0 A1 c1 (rd_T25 l0 i).f1 c w2 hr1 hc1 hc
          simp only [hc, Option.getD_some]
          exact this
        · rintro e w' ⟨rfl, hb'⟩
          exact ⟨by rw [hb1, Bool.not_not], hb'⟩
      clear hb1 hb2
      cases b with
      | false =>
        rw [if_neg (by decide)] at h
        simp only [Option.some.injEq, Prod.mk.injEq] at h
        obtain ⟨rfl, rfl⟩ := h
        simp only [Bool.not_false] at HANY
        go_enter Try.func8, Try.ntmps8
        go_wp2_with (go_at_call 28; refine (stream_primitives.calls k _ _ l0 n _ HR0.out HC0.out HN.out).mono ?_; rintro e w' ⟨rfl, hb⟩)
        have HB := Aside0.mk hb
        clear hb
        go_wp2_with (go_at_call 29; refine (HANY.out _ HB.out).mono ?_; rintro e w2 ⟨rfl, hb⟩)
        go_ret2
        exact ⟨rfl, below_step HB.out (by assumption)⟩
      | true =>
        rw [if_pos rfl] at h
        have H' := Aside0.mk h
        clear h
        simp only [Bool.not_true] at HANY
        go_enter Try.func8, Try.ntmps8
        go_wp2_with (go_at_call 28; refine (stream_primitives.calls k _ _ l0 n _ HR0.out HC0.out HN.out).mono ?_; rintro e w' ⟨rfl, hb⟩)
        have HB := Aside0.mk hb
        clear hb
        go_wp2_with (first | (go_at_call 29; refine (HANY.out _ HB.out).mono ?_; rintro e w2 ⟨rfl, hb⟩; have n0_ := Aside0.mk (below_step HB.out hb); clear HB hb; have HB := n0_; clear n0_) | ((with_reducible refine gate_dst (N := 4) rfl ?_); refine box_event ?hg (N := 4) ?hd (cs := #[.pointer none, .slice none 0 0]) (t := 59) ?hr ?_; (case hd => rfl); (case hg => rfl); (case hr => first | (go_simp; done) | (go_simp; rfl)); intro b hg w3 hbox hb; have HBD := Aside0.mk (Bld.fresh (B := w.heap.size) (by rw [hg]; exact below_size HB.out) hbox); have n0_ := Aside0.mk (below_step HB.out hb); clear HB hb hbox hg; have HB := n0_; clear n0_))
        go_loopg [22] k (fun kq v22 w' => ∃ (out : ByteArray) (i : Nat), v22 = .int .i64 i ∧ Aside0 (stream_Encode.l2 kq out l0 i = some (r1, r2)) ∧ Aside0 (kq ≤ k) ∧ Aside0 (Bld w.heap.size b out w') ∧ Aside0 (Below w.heap.size w w'))
        case atStart => exact ⟨_, 0, rfl, H', ⟨Nat.le_refl _⟩, HBD, HB⟩
        case round =>
          clear H' HBD HB
          obtain ⟨out, i, rfl, HA, HK1, HBD, HB⟩ := hrel
          cases gk with
          | zero => exact absurd HA.out (by simp [stream_Encode.l2])
          | succ k1 =>
            have H := HA.out
            clear HA
            simp only [stream_Encode.l2] at H
            by_cases hlt : i < l0.length
            · rw [if_pos hlt] at H
              have d0 : decide ((i : Int) < (l0.length : Int)) = true := decide_eq_true (by omega)
              have d1 : decide (i < l0.length) = true := decide_eq_true hlt
              have p0 : (0 : Int) ≤ (i : Int) := by omega
              have q0 : (i : Int) < (l0.length : Int) := by omega
              have hi62 : i + 1 < 4611686018427387904 := by have := HLEN.out; omega
              clear hlt
              by_cases hp : (patOf (rd_T25 l0 i).f0).length = 0
              · rw [if_pos hp] at H; cases H
              · rw [if_neg hp] at H
                obtain ⟨⟨m, me⟩, hm, H⟩ := Option.bind_eq_some_iff.mp H
                dsimp only at H
                have HM := Aside0.mk hm
                clear hm
                by_cases hs : out.size + m.size ≤ 140737488355328 ∧ (rd_T25 l0 i).f1.length < 4611686018427387904
                · rw [if_pos hs] at H
                  have HS := Aside0.mk hs.1
                  have HW := Aside0.mk (show ∀ j : Nat, j < (rd_T25 l0 (i : Int)).f1.length → wrap64 ((j : Int) + 1) = ((j + 1 : Nat) : Int) from fun j hj => by have := hs.2; unfold wrap64; omega)
                  have H' := Aside0.mk H
                  clear H hs
                  obtain ⟨ad, A1, c1, e1, hx0, hx1, hl1, hi1⟩ := at_T25 HR0.out (i : Int) p0 q0
                  cases e1
                  replace hx0 := (HB.out.cell (World.block_lt_of_cell? w _ hx0)).trans hx0
                  replace hx1 := (HB.out.cell (World.block_lt_of_cell? w _ hx1)).trans hx1
                  simp only [Int.toNat_natCast] at hx0 hx1
                  have HR1 := Aside0.mk hi1
                  have HC1 := Aside0.mk hl1
                  clear hi1 hl1
                  obtain ⟨gkd, hgk⟩ : ∃ x, (rd_T25 l0 (i : Int)).f0 = x := ⟨_, rfl⟩
                  obtain ⟨gl, hgl⟩ : ∃ x, (rd_T25 l0 (i : Int)).f1 = x := ⟨_, rfl⟩
                  rw [hgk] at hx0 HM hp
                  rw [hgl] at hx1 HM HR1 HC1 HW
                  have HGL := Aside0.mk hgl
                  clear hgk hgl
                  obtain ⟨pl, hpl⟩ : ∃ x, patOf gkd = x := ⟨_, rfl⟩
                  have HPL := Aside0.mk (show stream_Permitted.f gkd = some pl by rw [← hpl]; rfl)
                  rw [hpl] at hp HM
                  clear hpl
                  have hp1 : ((pl.length : Int) == 0) = false := by rw [beq_eq_false_iff_ne]; omega
                  have hp2 : ¬ (pl = []) := fun h_ => hp (by rw [h_]; rfl)
                  have hpn : ¬ ((pl.length : Int) = 0) := by omega
                  have HP := Aside0.mk hp
                  clear hp
                  go_wp2_with (first | ((with_reducible refine gate_dst (N := 6) rfl ?_); refine box_event ?hg (N := 6) ?hd (cs := #[.int .i64 0, .slice none 0 0]) (t := 25) ?hr ?_; (case hd => rfl); (case hg => rfl); (case hr => first | (go_simp; done) | (go_simp; rfl)); intro g hg w5 hbox hb; have HGB := Aside0.mk (show g ≠ b from by rw [hg]; exact Nat.ne_of_gt HBD.out.lt); have n0_ := Aside0.mk (below_step HB.out hb); have HBB := Aside0.mk hb; have GG := Aside0.mk (Nat.le_of_eq hg.symm); have GE := Aside0.mk (show w.heap.size ≤ g by rw [hg]; exact below_size HB.out); have BK := Aside0.mk hbox; clear HB hb hbox hg; have HB := n0_; clear n0_; have z0 : w5.cell? ⟨g, 0, none⟩ = some (.int .i64 0) := (blk_cell BK.out 0).trans rfl; have z1 : w5.cell? ⟨g, 1, none⟩ = some (.slice none 0 0) := (blk_cell BK.out 1).trans rfl; have f0 := blk_frozen BK.out 0; have f1 := blk_frozen BK.out 1))
                  have n0_ : Aside0 (((w5.setCell ⟨g, 0, none⟩ (.int .i64 gkd)).setCell ⟨g, 1, none⟩ (.slice A1 gl.length c1)).heap[g]? = some (.cells #[.int .i64 gkd, .slice A1 gl.length c1] 25 (0, 0))) := ⟨by refine blk_put (cs := #[.int .i64 gkd, .slice none 0 0]) ?_ 1 _ rfl; refine blk_put (cs := #[.int .i64 0, .slice none 0 0]) ?_ 0 _ rfl; exact BK.out⟩
                  have n1_ : Aside0 (Below w.heap.size w ((w5.setCell ⟨g, 0, none⟩ (.int .i64 gkd)).setCell ⟨g, 1, none⟩ (.slice A1 gl.length c1))) := ⟨below_set (below_set HB.out GE.out) GE.out⟩
                  have n2_ : Aside0 (Bld w.heap.size b out ((w5.setCell ⟨g, 0, none⟩ (.int .i64 gkd)).setCell ⟨g, 1, none⟩ (.slice A1 gl.length c1))) := ⟨HBD.out.below (below_set (below_set HBB.out GG.out) GG.out)⟩
                  clear BK HB HBD HBB GG z0 z1 f0 f1
                  generalize ((w5.setCell ⟨g, 0, none⟩ (.int .i64 gkd)).setCell ⟨g, 1, none⟩ (.slice A1 gl.length c1)) = wc at n0_ n1_ n2_ ⊢
                  have BK := n0_
                  have HB := n1_
                  have HBD := n2_
                  clear n0_ n1_ n2_
                  have y0 : wc.cell? ⟨g, 0, none⟩ = some (.int .i64 gkd) := (blk_cell BK.out 0).trans rfl
                  have y1 : wc.cell? ⟨g, 1, none⟩ = some (.slice A1 gl.length c1) := (blk_cell BK.out 1).trans rfl
                  have HSS := Aside0.mk (show ∀ w' : World, Below wc.heap.size wc w' → (w'.cell? ⟨g, 0, none⟩ = some (.int .i64 gkd) ∧ w'.cell? ⟨g, 1, none⟩ = some (.slice A1 gl.length c1) ∧ Below wc.heap.size wc w') from fun w' hb =>
                    ⟨(hb.cell (p := ⟨g, 0, none⟩) (blk_lt BK.out)).trans ((blk_cell BK.out 0).trans rfl), (hb.cell (p := ⟨g, 1, none⟩) (blk_lt BK.out)).trans ((blk_cell BK.out 1).trans rfl), hb⟩)
                  have hq1 : Int.tdiv (gl.length : Int) (pl.length : Int) = (gl.length : Int) / (pl.length : Int) := Int.tdiv_eq_ediv_of_nonneg (by omega)
                  have hq2 : IntKind.i64.wrap ((gl.length : Int) / (pl.length : Int)) = wrap64 ((gl.length : Int) / (pl.length : Int)) := i64_w _
                  go_upto_region 9 with fail
                  go_cut [7,8] (fun s7 s8 wx => s7 = .string m ∧ s8 = .int .i64 me ∧ Below wc.heap.size wc wx)
                  case first =>
                    go_region_held3 (fun w' => w'.cell? ⟨g, 0, none⟩ = some (.int .i64 gkd) ∧ w'.cell? ⟨g, 1, none⟩ = some (.slice A1 gl.length c1) ∧ Below wc.heap.size wc w') ((refine HSS.out _ ?_; go_split_ands; first | assumption | exact (Below.refl _ _).drew | (refine Below.drew ?_; assumption) | (refine Below.trans ?_ (Below.mono hb0 ?_); assumption; exact Below.size (show Below wc.heap.size wc _ by assumption)) | (refine Below.trans ?_ (Below.mono hb1 ?_); assumption; exact Below.size (show Below wc.heap.size wc _ by assumption))))
                      (first
                        | (go_at_call 17; refine (stream_Permitted.calls _ pl _ HPL.out).mono ?_; rintro e w' ⟨v0, rfl, ho0, hb0⟩; obtain ⟨Ao, co, rfl⟩ := Kd.R_slice ho0)
                        | (go_at_call 18; refine (stream_Mark.calls k1 _ _ m me _ HM.out).mono ?_; rintro e w' ⟨rfl, hb1⟩))
                    all_goals
                      go_wp2_with fail
                      go_meet
                      go_split_ands
                      exact ⟨rfl, rfl, by assumption⟩
                  case rest =>
                    obtain ⟨rfl, rfl, hb⟩ := hcut
                    have n0_ := Aside0.mk (below_step HB.out hb)
                    have n1_ := Aside0.mk (HBD.out.below hb)
                    have n2_ := Aside0.mk (blk_below BK.out hb)
                    clear HB HBD BK HSS y0 y1 hb
                    have HB := n0_
                    have HBD := n1_
                    have BK := n2_
                    clear n0_ n1_ n2_
                    go_wp2_with (go_at_call 32; refine (HBD.out.write m HS.out).mono ?_; rintro e w6 ⟨rfl, hbd, hb, hk⟩; have n0_ := Aside0.mk (HB.out.trans hb); have n1_ := Aside0.mk hbd; have n2_ := Aside0.mk (kept_blk hk BK.out HGB.out (by decide)); clear HB HBD BK hbd hb hk; have HB := n0_; have HBD := n1_; have BK := n2_; clear n0_ n1_ n2_; have y0 : w6.cell? ⟨g, 0, none⟩ = some (.int .i64 gkd) := (blk_cell BK.out 0).trans rfl; have y1 : w6.cell? ⟨g, 1, none⟩ = some (.slice A1 gl.length c1) := (blk_cell BK.out 1).trans rfl)
                    clear y0 y1 BK
                    go_loopg [45] k1 (fun kq v45 w' => ∃ (out' : ByteArray) (j : Nat), v45 = .int .i64 j ∧ Aside0 (stream_Encode.l3 kq out' l0 i j = some (r1, r2)) ∧ Aside0 (kq ≤ k1) ∧ Aside0 (Bld w.heap.size b out' w') ∧ Aside0 (Below w.heap.size w w'))
                    case atStart => exact ⟨_, 0, rfl, H', ⟨Nat.le_refl _⟩, HBD, HB⟩
                    case round =>
                      clear H' HBD HB
                      obtain ⟨out', j, rfl, HA, HK2, HBD, HB⟩ := hrel
                      cases gk with
                      | zero => exact absurd HA.out (by simp [stream_Encode.l3])
                      | succ k2 =>
                        have H := HA.out
                        clear HA
                        simp only [stream_Encode.l3, HGL.out] at H
                        by_cases hjt : j < gl.length
                        · rw [if_pos hjt] at H
                          have e0 : decide ((j : Int) < (gl.length : Int)) = true := decide_eq_true (by omega)
                          have e1 : decide (j < gl.length) = true := decide_eq_true hjt
                          have p1 : (0 : Int) ≤ (j : Int) := by omega
                          have q1 : (j : Int) < (gl.length : Int) := by omega
                          have HJ := Aside0.mk hjt
                          clear hjt
                          obtain ⟨⟨t, te⟩, ht, H⟩ := Option.bind_eq_some_iff.mp H
                          dsimp only at H
                          have HT := Aside0.mk ht
                          clear ht
                          have hw : wrap64 ((j : Int) + 1) = ((j + 1 : Nat) : Int) := HW.out j HJ.out
                          obtain ⟨ad2, e2, hx2, hx3⟩ := at_T27 HR1.out (j : Int) p1 q1
                          cases e2
                          replace hx2 := (HB.out.cell (World.block_lt_of_cell? w _ hx2)).trans hx2
                          replace hx3 := (HB.out.cell (World.block_lt_of_cell? w _ hx3)).trans hx3
                          simp only [Int.toNat_natCast] at hx2 hx3
                          obtain ⟨pc, hpc⟩ : ∃ x, (rd_T27 gl (j : Int)).f0 = x := ⟨_, rfl⟩
                          obtain ⟨pr, hpr⟩ : ∃ x, (rd_T27 gl (j : Int)).f1 = x := ⟨_, rfl⟩
                          rw [hpc] at hx2 HT
                          rw [hpr] at hx3 HT
                          clear hpc hpr
                          by_cases hte : te = 0
                          · subst hte
                            rw [if_pos rfl] at H
                            by_cases hs : out'.size + t.size ≤ 140737488355328
                            · rw [if_pos hs] at H
                              have HS2 := Aside0.mk hs
                              have H' := Aside0.mk H
                              clear H hs
                              go_wp2_with (first | (go_at_call 33; refine (primitive_Encode.calls k2 _ _ t 0 _ HT.out).mono ?_; rintro e w7 ⟨rfl, hb⟩; have n0_ := Aside0.mk (below_step (by repeat (first | (with_reducible first | exact HB.out | apply below_alloc) | exact HB.out)) hb); have n1_ := Aside0.mk (HBD.out.below (below_then (by repeat (first | (with_reducible first | exact Below.refl _ _ | apply below_alloc) | exact Below.refl _ _)) (by simp) hb)); clear HB HBD hb; have HB := n0_; have HBD := n1_; clear n0_ n1_) | (go_at_call 32; refine (HBD.out.write t HS2.out).mono ?_; rintro e w8 ⟨rfl, hbd, hb, hk⟩; have n0_ := Aside0.mk (HB.out.trans hb); have n1_ := Aside0.mk hbd; clear HB HBD hbd hb hk; have HB := n0_; have HBD := n1_; clear n0_ n1_))
                              go_roundg k2
                              case measure => have := HK2.out; omega
                              case rel => exact ⟨_, j + 1, by have := HW.out j HJ.out; simp; omega, H', ⟨by have := HK2.out; omega⟩, HBD, HB⟩
                            · rw [if_neg hs] at H; cases H
                          · rw [if_neg hte] at H
                            simp only [Option.some.injEq, Prod.mk.injEq] at H
                            obtain ⟨rfl, rfl⟩ := H
                            have t0 : (te != 0) = true := bne_iff_ne.mpr hte
                            have t1 : (te == 0) = false := beq_eq_false_iff_ne.mpr hte
                            clear hte
                            go_wp2_with (go_at_call 33; refine (primitive_Encode.calls k2 _ _ t te _ HT.out).mono ?_; rintro e w7 ⟨rfl, hb⟩; have n0_ := Aside0.mk (below_step (by repeat (first | (with_reducible first | exact HB.out | apply below_alloc) | exact HB.out)) hb); clear HB HBD hb; have HB := n0_; clear n0_)
                            go_ret2
                            exact ⟨rfl, HB.out⟩
                        · rw [if_neg hjt] at H
                          have e0 : decide ((j : Int) < (gl.length : Int)) = false := decide_eq_false (by omega)
                          have e1 : decide (j < gl.length) = false := decide_eq_false hjt
                          have hw : wrap64 ((i : Int) + 1) = ((i + 1 : Nat) : Int) := by unfold wrap64; omega
                          have H' := Aside0.mk H
                          clear H hjt
                          go_wp2_with fail
                          go_roundg k2
                          case measure => have := HK1.out; have := HK2.out; omega
                          case rel => exact ⟨_, i + 1, by simp, H', ⟨by have := HK1.out; have := HK2.out; omega⟩, HBD, HB⟩
                · rw [if_neg hs] at H; cases H
            · rw [if_neg hlt] at H
              have d0 : decide ((i : Int) < (l0.length : Int)) = false := decide_eq_false (by omega)
              have d1 : decide (i < l0.length) = false := decide_eq_false hlt
              simp only [Option.some.injEq, Prod.mk.injEq] at H
              obtain ⟨rfl, rfl⟩ := H
              go_wp2_with (go_at_call 34; refine (HBD.out.get).mono ?_; rintro e w2 ⟨rfl, hbd, hb⟩; have n0_ := Aside0.mk (HB.out.trans hb); clear HB hb; have HB := n0_; clear n0_ hbd)
              go_ret2
              exact ⟨rfl, HB.out⟩
    · rw [if_neg hlen] at h
      cases h

end Go.Proofs.Ytookjdhfpbmjkaa.X
