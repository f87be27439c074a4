/- A Go function of the translation as a plain Lean function, with the proof that the call answers just so. Printed by a program of this session; Lean checks it. -/
import Derived.Test.YtoinmpjjmkpamaaPAx0
namespace Go.Proofs.Ytoinmpjjmkpamaa.PA
open Go.RowKit Go.Proofs.YtoinmpjjmkpamaaW.PrintWords Go.Proofs.YtoinmpjjmkpamaaW.PrintLast Go.Proofs.YtoinmpjjmkpamaaW.PrintMore
attribute [local go_sem] max2_int min2_int max_two min_two max_three min_three max_four min_four   -- for this text's walks alone
set_option linter.unusedVariables false
set_option linter.unusedSimpArgs false

/-! ### name_plain: function 17 -/
def name_plain.f (a0 : ByteArray) (a1 : Int) : Option (Bool) := if 0 ≤ a1 then (if a1 < (a0.size : Int) then (if (bt a0 a1) > 32 then (if (bt a0 a1) < 127 then (if (bt a0 a1) = 92 then (if (bt a0 a1) = 32 then (if a1 > 0 then (some (decide (a1 < (wrap64 ((a0.size : Int) - 1))))) else (some false)) else (some false)) else (some true)) else (if (bt a0 a1) = 32 then (if a1 > 0 then (some (decide (a1 < (wrap64 ((a0.size : Int) - 1))))) else (some false)) else (some false))) else (if (bt a0 a1) = 32 then (if a1 > 0 then (some (decide (a1 < (wrap64 ((a0.size : Int) - 1))))) else (some false)) else (some false))) else (none)) else (none)
set_option maxHeartbeats 8000000 in
set_option maxRecDepth 100000 in
theorem name_plain.calls (a0 : ByteArray) (a1 : Int) (r : Bool) (w : World) (h : name_plain.f a0 a1 = some r) :
    Calls Try.prog 17 #[.string a0, .int .i64 a1] w fun e w' => e = .returned (.bool r) ∧ Drawn0 w w' := by
  have H : (if 0 ≤ a1 then (if a1 < (a0.size : Int) then (if (bt a0 a1) > 32 then (if (bt a0 a1) < 127 then (if (bt a0 a1) = 92 then (if (bt a0 a1) = 32 then (if a1 > 0 then (some (decide (a1 < (wrap64 ((a0.size : Int) - 1))))) else (some false)) else (some false)) else (some true)) else (if (bt a0 a1) = 32 then (if a1 > 0 then (some (decide (a1 < (wrap64 ((a0.size : Int) - 1))))) else (some false)) else (some false))) else (if (bt a0 a1) = 32 then (if a1 > 0 then (some (decide (a1 < (wrap64 ((a0.size : Int) - 1))))) else (some false)) else (some false))) else (none)) else (none)) = some r := h
  clear h
  by_cases c3 : 0 ≤ a1
  · rw [if_pos c3] at H
    have c3b0 : decide (0 ≤ a1) = true := decide_eq_true c3
    clear c3
    by_cases c4 : a1 < (a0.size : Int)
    · rw [if_pos c4] at H
      have c4b0 : decide (a1 < (a0.size : Int)) = true := decide_eq_true c4
      clear c4
      by_cases c6 : (bt a0 a1) > 32
      · rw [if_pos c6] at H
        have c6b0 : decide (32 < (bt a0 a1)) = true := decide_eq_true c6
        clear c6
        by_cases c7 : (bt a0 a1) < 127
        · rw [if_pos c7] at H
          have c7b0 : decide ((bt a0 a1) < 127) = true := decide_eq_true c7
          clear c7
          by_cases c8 : (bt a0 a1) = 92
          · rw [if_pos c8] at H
            have c8b0 : ((bt a0 a1) == 92) = true := beq_iff_eq.mpr c8
            have c8b1 : ((bt a0 a1) != 92) = false := bne_eq_false_iff_eq.mpr c8
            clear c8
            by_cases c9 : (bt a0 a1) = 32
            · rw [if_pos c9] at H
              have c9b0 : ((bt a0 a1) == 32) = true := beq_iff_eq.mpr c9
              have c9b1 : ((bt a0 a1) != 32) = false := bne_eq_false_iff_eq.mpr c9
              clear c9
              by_cases c10 : a1 > 0
              · rw [if_pos c10] at H
                have c10b0 : decide (0 < a1) = true := decide_eq_true c10
                clear c10
                obtain rfl := Option.some.inj H
                have p5 : 0 ≤ (a1 : Int) := of_decide_eq_true (by first | (with_reducible assumption) | assumption)
                have q5 : a1 < (a0.size : Int) := of_decide_eq_true (by first | (with_reducible assumption) | assumption)
                have hx5 := bt_at a0 a1
                replace p5 := eq_true p5
                replace q5 := eq_true q5
                go_enter Try.func17, Try.ntmps17
                go_wp2
                go_ret
                exact ⟨by first | rfl | (simp; done) | (simp [*]; done), by repeat (first | exact Drawn0.refl _ | apply Drawn0.step)⟩
              · rw [if_neg c10] at H
                have c10b0 : decide (0 < a1) = false := decide_eq_false c10
                clear c10
                obtain rfl := Option.some.inj H
                have p5 : 0 ≤ (a1 : Int) := of_decide_eq_true (by first | (with_reducible assumption) | assumption)
                have q5 : a1 < (a0.size : Int) := of_decide_eq_true (by first | (with_reducible assumption) | assumption)
                have hx5 := bt_at a0 a1
                replace p5 := eq_true p5
                replace q5 := eq_true q5
                go_enter Try.func17, Try.ntmps17
                go_wp2
                go_ret
                exact ⟨by first | rfl | (simp; done) | (simp [*]; done), by repeat (first | exact Drawn0.refl _ | apply Drawn0.step)⟩
            · rw [if_neg c9] at H
              have c9b0 : ((bt a0 a1) == 32) = false := beq_eq_false_iff_ne.mpr c9
              have c9b1 : ((bt a0 a1) != 32) = true := bne_iff_ne.mpr c9
              obtain rfl := Option.some.inj H
              have p5 : 0 ≤ (a1 : Int) := of_decide_eq_true (by first | (with_reducible assumption) | assumption)
              have q5 : a1 < (a0.size : Int) := of_decide_eq_true (by first | (with_reducible assumption) | assumption)
              have hx5 := bt_at a0 a1
              replace p5 := eq_true p5
              replace q5 := eq_true q5
              go_enter Try.func17, Try.ntmps17
              go_wp2
              go_ret
              exact ⟨by first | rfl | (simp; done) | (simp [*]; done), by repeat (first | exact Drawn0.refl _ | apply Drawn0.step)⟩
          · rw [if_neg c8] at H
            have c8b0 : ((bt a0 a1) == 92) = false := beq_eq_false_iff_ne.mpr c8
            have c8b1 : ((bt a0 a1) != 92) = true := bne_iff_ne.mpr c8
            obtain rfl := Option.some.inj H
            have p5 : 0 ≤ (a1 : Int) := of_decide_eq_true (by first | (with_reducible assumption) | assumption)
            have q5 : a1 < (a0.size : Int) := of_decide_eq_true (by first | (with_reducible assumption) | assumption)
            have hx5 := bt_at a0 a1
            replace p5 := eq_true p5
            replace q5 := eq_true q5
            go_enter Try.func17, Try.ntmps17
            go_wp2
            go_ret
            exact ⟨by first | rfl | (simp; done) | (simp [*]; done), by repeat (first | exact Drawn0.refl _ | apply Drawn0.step)⟩
        · rw [if_neg c7] at H
          have c7b0 : decide ((bt a0 a1) < 127) = false := decide_eq_false c7
          clear c7
          by_cases c11 : (bt a0 a1) = 32
          · rw [if_pos c11] at H
            have c11b0 : ((bt a0 a1) == 32) = true := beq_iff_eq.mpr c11
            have c11b1 : ((bt a0 a1) != 32) = false := bne_eq_false_iff_eq.mpr c11
            clear c11
            by_cases c12 : a1 > 0
            · rw [if_pos c12] at H
              have c12b0 : decide (0 < a1) = true := decide_eq_true c12
              clear c12
              obtain rfl := Option.some.inj H
              have p5 : 0 ≤ (a1 : Int) := of_decide_eq_true (by first | (with_reducible assumption) | assumption)
              have q5 : a1 < (a0.size : Int) := of_decide_eq_true (by first | (with_reducible assumption) | assumption)
              have hx5 := bt_at a0 a1
              replace p5 := eq_true p5
              replace q5 := eq_true q5
              go_enter Try.func17, Try.ntmps17
              go_wp2
              go_ret
              exact ⟨by first | rfl | (simp; done) | (simp [*]; done), by repeat (first | exact Drawn0.refl _ | apply Drawn0.step)⟩
            · rw [if_neg c12] at H
              have c12b0 : decide (0 < a1) = false := decide_eq_false c12
              clear c12
              obtain rfl := Option.some.inj H
              have p5 : 0 ≤ (a1 : Int) := of_decide_eq_true (by first | (with_reducible assumption) | assumption)
              have q5 : a1 < (a0.size : Int) := of_decide_eq_true (by first | (with_reducible assumption) | assumption)
              have hx5 := bt_at a0 a1
              replace p5 := eq_true p5
              replace q5 := eq_true q5
              go_enter Try.func17, Try.ntmps17
              go_wp2
              go_ret
              exact ⟨by first | rfl | (simp; done) | (simp [*]; done), by repeat (first | exact Drawn0.refl _ | apply Drawn0.step)⟩
          · rw [if_neg c11] at H
            have c11b0 : ((bt a0 a1) == 32) = false := beq_eq_false_iff_ne.mpr c11
            have c11b1 : ((bt a0 a1) != 32) = true := bne_iff_ne.mpr c11
            obtain rfl := Option.some.inj H
            have p5 : 0 ≤ (a1 : Int) := of_decide_eq_true (by first | (with_reducible assumption) | assumption)
            have q5 : a1 < (a0.size : Int) := of_decide_eq_true (by first | (with_reducible assumption) | assumption)
            have hx5 := bt_at a0 a1
            replace p5 := eq_true p5
            replace q5 := eq_true q5
            go_enter Try.func17, Try.ntmps17
            go_wp2
            go_ret
            exact ⟨by first | rfl | (simp; done) | (simp [*]; done), by repeat (first | exact Drawn0.refl _ | apply Drawn0.step)⟩
      · rw [if_neg c6] at H
        have c6b0 : decide (32 < (bt a0 a1)) = false := decide_eq_false c6
        clear c6
        by_cases c13 : (bt a0 a1) = 32
        · rw [if_pos c13] at H
          have c13b0 : ((bt a0 a1) == 32) = true := beq_iff_eq.mpr c13
          have c13b1 : ((bt a0 a1) != 32) = false := bne_eq_false_iff_eq.mpr c13
          clear c13
          by_cases c14 : a1 > 0
          · rw [if_pos c14] at H
            have c14b0 : decide (0 < a1) = true := decide_eq_true c14
            clear c14
            obtain rfl := Option.some.inj H
            have p5 : 0 ≤ (a1 : Int) := of_decide_eq_true (by first | (with_reducible assumption) | assumption)
            have q5 : a1 < (a0.size : Int) := of_decide_eq_true (by first | (with_reducible assumption) | assumption)
            have hx5 := bt_at a0 a1
            replace p5 := eq_true p5
            replace q5 := eq_true q5
            go_enter Try.func17, Try.ntmps17
            go_wp2
            go_ret
            exact ⟨by first | rfl | (simp; done) | (simp [*]; done), by repeat (first | exact Drawn0.refl _ | apply Drawn0.step)⟩
          · rw [if_neg c14] at H
            have c14b0 : decide (0 < a1) = false := decide_eq_false c14
            clear c14
            obtain rfl := Option.some.inj H
            have p5 : 0 ≤ (a1 : Int) := of_decide_eq_true (by first | (with_reducible assumption) | assumption)
            have q5 : a1 < (a0.size : Int) := of_decide_eq_true (by first | (with_reducible assumption) | assumption)
            have hx5 := bt_at a0 a1
            replace p5 := eq_true p5
            replace q5 := eq_true q5
            go_enter Try.func17, Try.ntmps17
            go_wp2
            go_ret
            exact ⟨by first | rfl | (simp; done) | (simp [*]; done), by repeat (first | exact Drawn0.refl _ | apply Drawn0.step)⟩
        · rw [if_neg c13] at H
          have c13b0 : ((bt a0 a1) == 32) = false := beq_eq_false_iff_ne.mpr c13
          have c13b1 : ((bt a0 a1) != 32) = true := bne_iff_ne.mpr c13
          obtain rfl := Option.some.inj H
          have p5 : 0 ≤ (a1 : Int) := of_decide_eq_true (by first | (with_reducible assumption) | assumption)
          have q5 : a1 < (a0.size : Int) := of_decide_eq_true (by first | (with_reducible assumption) | assumption)
          have hx5 := bt_at a0 a1
          replace p5 := eq_true p5
          replace q5 := eq_true q5
          go_enter Try.func17, Try.ntmps17
          go_wp2
          go_ret
          exact ⟨by first | rfl | (simp; done) | (simp [*]; done), by repeat (first | exact Drawn0.refl _ | apply Drawn0.step)⟩
    · rw [if_neg c4] at H
      exact absurd H (by simp)
  · rw [if_neg c3] at H
    exact absurd H (by simp)

end Go.Proofs.Ytoinmpjjmkpamaa.PA
