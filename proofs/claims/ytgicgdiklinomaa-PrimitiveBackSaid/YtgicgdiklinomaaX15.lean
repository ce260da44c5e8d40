-- Written by xprint.py, a program of this repo that leads the kit's print.py: Lean checks it.
import Derived.Test.YtgicgdiklinomaaX0
import Derived.Test.YtgicgdiklinomaaX9
namespace Go.Proofs.Ytgicgdiklinomaa.X
open Go.RowKit Go.Proofs.YtgicgdiklinomaaW.PrintWords Go.Proofs.YtgicgdiklinomaaW.PrintLast Go.Proofs.YtgicgdiklinomaaW.PrintMore
attribute [local go_sem] max2_int min2_int max_two min_two max_three min_three max_four min_four   -- for this text's walks alone
set_option linter.unusedVariables false
set_option linter.unusedSimpArgs false

/-! ### primitive_Size: function 18 -/
def formSize (k : Int) : Int := (formCode k).size + (formRaw k + (3 - formRaw k % 3) % 3) / 3 * 4 - (3 - formRaw k % 3) % 3
def primitive_Size.f (a0 : Int) : Option Int := if formOk a0 = true then primitive_form_size.f (formCode a0) (formRaw a0) else some 0
set_option maxHeartbeats 2000000 in
theorem primitive_Size.calls (a0 : Int) (r : Int) (w : World) (h : primitive_Size.f a0 = some r) :
    Calls Try.prog 18 #[.int .i64 a0] w fun e w' => e = .returned (.int .i64 r) ∧ Below w.heap.size w w' := by
  unfold primitive_Size.f at h
  have hl := forms_look w a0
  unfold formVal at hl
  obtain ⟨s, hs⟩ : ∃ s, formCode a0 = s := ⟨_, rfl⟩
  obtain ⟨n, hn⟩ : ∃ n, formRaw a0 = n := ⟨_, rfl⟩
  rw [hs, hn] at hl h
  clear hs hn
  by_cases hk : formOk a0 = true
  · rw [if_pos hk] at h
    rw [hk] at hl
    have H := Aside0.mk h
    clear h
    go_enter Try.func18, Try.ntmps18
    go_wp2_with fail
    refine (forms_any _).mono ?_
    rintro e w' ⟨rfl, rfl⟩
    go_wp2_with fail
    refine (primitive_form_size.calls s n r _ H.out).mono ?_
    rintro e w2 ⟨rfl, hb⟩
    go_wp2_with fail
    go_ret
    exact ⟨rfl, (((Below.refl _ _).alloc (Nat.le_refl _) _).alloc (by simp) _).trans (hb.mono (by simp; omega))⟩
  · rw [if_neg hk] at h
    have hk' : formOk a0 = false := by simpa using hk
    rw [hk'] at hl
    simp only [Option.some.injEq] at h
    subst h
    clear hk hk'
    go_enter Try.func18, Try.ntmps18
    go_wp2_with (go_at_call 33; refine (forms_any _).mono ?_; rintro e w' ⟨rfl, rfl⟩)
    go_ret
    exact ⟨rfl, ((Below.refl _ _).alloc (Nat.le_refl _) _).alloc (by simp) _⟩

end Go.Proofs.Ytgicgdiklinomaa.X
