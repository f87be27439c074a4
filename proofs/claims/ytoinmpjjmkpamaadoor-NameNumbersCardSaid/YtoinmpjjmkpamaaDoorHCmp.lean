/- cmp.Compare at strings. -/
import Derived.Test.YtoinmpjjmkpamaaDoorPAx22
namespace Go.Proofs.YtoinmpjjmkpamaaDoor.PA
open Go.RowKit Go.Proofs.YtoinmpjjmkpamaaDoorW.PrintWords Go.Proofs.YtoinmpjjmkpamaaDoorW.PrintLast Go.Proofs.YtoinmpjjmkpamaaDoorW.PrintMore
attribute [local go_sem] max2_int min2_int max_two min_two

def cmp_Compare_string.f (a0 a1 : ByteArray) : Option Int := some (if Op.bytesLess a0.toList a1.toList = true then -1 else if a0.toList = a1.toList then 0 else 1)
theorem nan_none (a0 : ByteArray) : cmp_isNaN_string.f a0 = some false := by
  unfold cmp_isNaN_string.f
  simp
theorem run_gtr_str (t : TypeId) (a b : ByteArray) (w : World) : (binOp .gtr t (.string a) (.string b)).run Tryd.prog w = .ok (.bool (!Op.bytesLess a.toList b.toList && !(a.toList == b.toList))) w := by
  simp [binOp, go_sem, Op.stringOp]
set_option maxHeartbeats 4000000 in
theorem cmp_Compare_string.calls (a0 a1 : ByteArray) (r : Int) (w : World) (h : cmp_Compare_string.f a0 a1 = some r) :
    Calls Tryd.prog 19 #[.string a0, .string a1] w fun e w' => e = .returned (.int .i64 r) ∧ Drawn0 w w' := by
  have h' := Option.some.inj h
  clear h
  have hg := fun (w : World) => run_gtr_str 9 a0 a1 w
  by_cases c1 : Op.bytesLess a0.toList a1.toList = true
  · rw [if_pos c1] at h'
    subst h'
    rw [c1] at hg
    go_enter Tryd.func19, Tryd.ntmps19
    go_wp2_with (first | (go_at_call 26; refine (cmp_isNaN_string.calls a0 false _ (nan_none a0)).mono ?_; rintro e w' ⟨rfl, ⟨nd, rfl⟩⟩) | (go_at_call 26; refine (cmp_isNaN_string.calls a1 false _ (nan_none a1)).mono ?_; rintro e w' ⟨rfl, ⟨nd, rfl⟩⟩))
    go_ret
    exact ⟨rfl, by repeat (first | exact Drawn0.refl _ | apply Drawn0.step)⟩
  rw [if_neg c1] at h'
  replace c1 := Bool.eq_false_iff.2 c1
  rw [c1] at hg
  by_cases c2 : a0.toList = a1.toList
  · rw [if_pos c2] at h'
    subst h'
    rw [beq_iff_eq.2 c2] at hg
    simp only [Bool.not_false, Bool.not_true, Bool.and_false] at hg
    clear c2
    go_enter Tryd.func19, Tryd.ntmps19
    go_wp2_with (first | (go_at_call 26; refine (cmp_isNaN_string.calls a0 false _ (nan_none a0)).mono ?_; rintro e w' ⟨rfl, ⟨nd, rfl⟩⟩) | (go_at_call 26; refine (cmp_isNaN_string.calls a1 false _ (nan_none a1)).mono ?_; rintro e w' ⟨rfl, ⟨nd, rfl⟩⟩))
    go_ret
    exact ⟨rfl, by repeat (first | exact Drawn0.refl _ | apply Drawn0.step)⟩
  · rw [if_neg c2] at h'
    subst h'
    rw [beq_eq_false_iff_ne.2 c2] at hg
    simp only [Bool.not_false, Bool.and_true] at hg
    clear c2
    go_enter Tryd.func19, Tryd.ntmps19
    go_wp2_with (first | (go_at_call 26; refine (cmp_isNaN_string.calls a0 false _ (nan_none a0)).mono ?_; rintro e w' ⟨rfl, ⟨nd, rfl⟩⟩) | (go_at_call 26; refine (cmp_isNaN_string.calls a1 false _ (nan_none a1)).mono ?_; rintro e w' ⟨rfl, ⟨nd, rfl⟩⟩))
    go_ret
    exact ⟨rfl, by repeat (first | exact Drawn0.refl _ | apply Drawn0.step)⟩
end Go.Proofs.YtoinmpjjmkpamaaDoor.PA
