/- A Go function of the translation as a plain Lean function, with the proof that the call answers just so. Printed by a program of this session; Lean checks it. -/
import Derived.Test.YtoinmpjjmkpamaaDoorPAx0
namespace Go.Proofs.YtoinmpjjmkpamaaDoor.PA
open Go.RowKit Go.Proofs.YtoinmpjjmkpamaaDoorW.PrintWords Go.Proofs.YtoinmpjjmkpamaaDoorW.PrintLast Go.Proofs.YtoinmpjjmkpamaaDoorW.PrintMore
attribute [local go_sem] max2_int min2_int max_two min_two max_three min_three max_four min_four   -- for this text's walks alone
set_option linter.unusedVariables false
set_option linter.unusedSimpArgs false

/-! ### colloquyref02_less: function 15 -/
mutual
def colloquyref02_less.j0 : Nat → ByteArray → ByteArray → Int → Option (Bool)
  | 0, _, _, _ => none
  | k + 1, x0, x1, x5 => colloquyref02_less.l0 k x0 x1 x5 0
def colloquyref02_less.l0 : Nat → ByteArray → ByteArray → Int → Int → Option (Bool)
  | 0, _, _, _, _ => none
  | k + 1, x0, x1, x5, x6 => if x6 < x5 then (if x6 ≥ (wrap64 (x5 - (x0.size : Int))) then (if 0 ≤ (wrap64 (x6 - (wrap64 (x5 - (x0.size : Int))))) then (if (wrap64 (x6 - (wrap64 (x5 - (x0.size : Int))))) < (x0.size : Int) then (colloquyref02_less.j2 k x0 x1 x5 x6 (bt x0 (wrap64 (x6 - (wrap64 (x5 - (x0.size : Int)))))) 48) else (none)) else (none)) else (colloquyref02_less.j2 k x0 x1 x5 x6 48 48)) else (some (decide ((x0.size : Int) < (x1.size : Int))))
def colloquyref02_less.j2 : Nat → ByteArray → ByteArray → Int → Int → Int → Int → Option (Bool)
  | 0, _, _, _, _, _, _ => none
  | k + 1, x0, x1, x5, x6, x7, x8 => if x6 ≥ (wrap64 (x5 - (x1.size : Int))) then (if 0 ≤ (wrap64 (x6 - (wrap64 (x5 - (x1.size : Int))))) then (if (wrap64 (x6 - (wrap64 (x5 - (x1.size : Int))))) < (x1.size : Int) then (if x7 = (bt x1 (wrap64 (x6 - (wrap64 (x5 - (x1.size : Int)))))) then (colloquyref02_less.l0 k x0 x1 x5 (wrap64 (x6 + 1))) else (some (decide (x7 < (bt x1 (wrap64 (x6 - (wrap64 (x5 - (x1.size : Int)))))))))) else (none)) else (none)) else (if x7 = x8 then (colloquyref02_less.l0 k x0 x1 x5 (wrap64 (x6 + 1))) else (some (decide (x7 < x8))))
end
def colloquyref02_less.f (k : Nat) (a0 : ByteArray) (a1 : ByteArray) : Option (Bool) := if (a1.size : Int) > (a0.size : Int) then (colloquyref02_less.j0 k a0 a1 (a1.size : Int)) else (colloquyref02_less.j0 k a0 a1 (a0.size : Int))
theorem colloquyref02_less.mono_l : ∀ k, (∀ y0 y1 y2, LeO (colloquyref02_less.j0 k y0 y1 y2) (colloquyref02_less.j0 (k + 1) y0 y1 y2)) ∧ (∀ y0 y1 y2 y3, LeO (colloquyref02_less.l0 k y0 y1 y2 y3) (colloquyref02_less.l0 (k + 1) y0 y1 y2 y3)) ∧ (∀ y0 y1 y2 y3 y4 y5, LeO (colloquyref02_less.j2 k y0 y1 y2 y3 y4 y5) (colloquyref02_less.j2 (k + 1) y0 y1 y2 y3 y4 y5))
  | 0 => ⟨fun _ _ _ r h => by simp [colloquyref02_less.j0] at h, fun _ _ _ _ r h => by simp [colloquyref02_less.l0] at h, fun _ _ _ _ _ _ r h => by simp [colloquyref02_less.j2] at h⟩
  | k + 1 => by
    obtain ⟨ih0, ih1, ih2⟩ := colloquyref02_less.mono_l k
    refine ⟨?_, ?_, ?_⟩
    · intro y0 y1 y2
      unfold colloquyref02_less.j0
      repeat' first
      | (with_reducible exact ih0 _ _ _)
      | (with_reducible exact ih1 _ _ _ _)
      | (with_reducible exact ih2 _ _ _ _ _ _)
      | (with_reducible exact LeO.refl _)
      | (with_reducible exact LeO.none _)
      | (with_reducible refine LeO.ite ?_ ?_)
      | (with_reducible refine LeO.bind ?_ (fun _ => ?_))
      | exact ih0 _ _ _
      | exact ih1 _ _ _ _
      | exact ih2 _ _ _ _ _ _
      | exact LeO.none _
      | refine LeO.ite ?_ ?_
      | refine LeO.bind ?_ (fun _ => ?_)
    · intro y0 y1 y2 y3
      unfold colloquyref02_less.l0
      repeat' first
      | (with_reducible exact ih0 _ _ _)
      | (with_reducible exact ih1 _ _ _ _)
      | (with_reducible exact ih2 _ _ _ _ _ _)
      | (with_reducible exact LeO.refl _)
      | (with_reducible exact LeO.none _)
      | (with_reducible refine LeO.ite ?_ ?_)
      | (with_reducible refine LeO.bind ?_ (fun _ => ?_))
      | exact ih0 _ _ _
      | exact ih1 _ _ _ _
      | exact ih2 _ _ _ _ _ _
      | exact LeO.none _
      | refine LeO.ite ?_ ?_
      | refine LeO.bind ?_ (fun _ => ?_)
    · intro y0 y1 y2 y3 y4 y5
      unfold colloquyref02_less.j2
      repeat' first
      | (with_reducible exact ih0 _ _ _)
      | (with_reducible exact ih1 _ _ _ _)
      | (with_reducible exact ih2 _ _ _ _ _ _)
      | (with_reducible exact LeO.refl _)
      | (with_reducible exact LeO.none _)
      | (with_reducible refine LeO.ite ?_ ?_)
      | (with_reducible refine LeO.bind ?_ (fun _ => ?_))
      | exact ih0 _ _ _
      | exact ih1 _ _ _ _
      | exact ih2 _ _ _ _ _ _
      | exact LeO.none _
      | refine LeO.ite ?_ ?_
      | refine LeO.bind ?_ (fun _ => ?_)
theorem colloquyref02_less.mono : ∀ a0 a1 k, LeO (colloquyref02_less.f k a0 a1) (colloquyref02_less.f (k + 1) a0 a1) := by
  intro a0 a1 k
  obtain ⟨ih0, ih1, ih2⟩ := colloquyref02_less.mono_l k
  unfold colloquyref02_less.f
  repeat' first
      | (with_reducible exact ih0 _ _ _)
      | (with_reducible exact ih1 _ _ _ _)
      | (with_reducible exact ih2 _ _ _ _ _ _)
      | (with_reducible exact LeO.refl _)
      | (with_reducible exact LeO.none _)
      | (with_reducible refine LeO.ite ?_ ?_)
      | (with_reducible refine LeO.bind ?_ (fun _ => ?_))
      | exact ih0 _ _ _
      | exact ih1 _ _ _ _
      | exact ih2 _ _ _ _ _ _
      | exact LeO.none _
      | refine LeO.ite ?_ ?_
      | refine LeO.bind ?_ (fun _ => ?_)
set_option maxHeartbeats 8000000 in
set_option maxRecDepth 100000 in
theorem colloquyref02_less.calls (k : Nat) (a0 : ByteArray) (a1 : ByteArray) (r : Bool) (w : World) (h : colloquyref02_less.f k a0 a1 = some r) :
    Calls Tryd.prog 15 #[.string a0, .string a1] w fun e w' => e = .returned (.bool r) ∧ Drawn0 w w' := by
  have H : (if (a1.size : Int) > (a0.size : Int) then (colloquyref02_less.j0 k a0 a1 (a1.size : Int)) else (colloquyref02_less.j0 k a0 a1 (a0.size : Int))) = some r := h
  clear h
  have HC3 := Aside0.mk H
  clear H
  go_enter Tryd.func15, Tryd.ntmps15
  go_upto_if 14 with (fail)
  go_cut [5] (fun v5 wc => ∃ (kq : Nat) (x5_2 : Int), v5 = .int .i64 x5_2 ∧ Aside0 (colloquyref02_less.j0 kq a0 a1 x5_2 = some r) ∧ Aside0 (kq ≤ k) ∧ Drawn0 w wc)
  case first =>
    have H := HC3.out
    clear HC3
    by_cases c4 : (a1.size : Int) > (a0.size : Int)
    · rw [if_pos c4] at H
      have c4b0 : decide ((a0.size : Int) < (a1.size : Int)) = true := decide_eq_true c4
      have c4b1 : decide (a0.size < a1.size) = true := decide_eq_true (Int.ofNat_lt.mp c4)
      clear c4
      (first | rw [c4b0] | rw [c4b1] | (simp only [i64_w, i32_w]; rw [c4b0]) | skip)
      have H' := Aside0.mk H
      clear H
      go_wp2
      go_meet
      case rel => exact ⟨_, ((a1.size : Int)), (by first | rfl | (simp; done) | (simp [*]; done)), H', ⟨by first | omega | exact Nat.le_refl _⟩, by repeat (first | exact Drawn0.refl _ | apply Drawn0.step)⟩
    · rw [if_neg c4] at H
      have c4b0 : decide ((a0.size : Int) < (a1.size : Int)) = false := decide_eq_false c4
      have c4b1 : decide (a0.size < a1.size) = false := decide_eq_false (fun h => c4 (Int.ofNat_lt.mpr h))
      clear c4
      (first | rw [c4b0] | rw [c4b1] | (simp only [i64_w, i32_w]; rw [c4b0]) | skip)
      have H' := Aside0.mk H
      clear H
      go_wp2
      go_meet
      case rel => exact ⟨_, ((a0.size : Int)), (by first | rfl | (simp; done) | (simp [*]; done)), H', ⟨by first | omega | exact Nat.le_refl _⟩, by repeat (first | exact Drawn0.refl _ | apply Drawn0.step)⟩
  case rest =>
    clear HC3
    try clear c1
    try clear p2
    try clear c4
    try clear c4b0
    try clear c4b1
    obtain ⟨kq, x5_2, rfl, HA, HJ2, ⟨mc2, rfl⟩⟩ := hcut
    cases kq with
    | zero => exact absurd HA.out (by simp [colloquyref02_less.j0])
    | succ kj2 =>
      have H := HA.out
      clear HA
      simp only [colloquyref02_less.j0] at H
      have H' := Aside0.mk H
      clear H
      go_wp2
      go_loopg [6] kj2 (fun kq v6 w' => ∃ (x6_2 : Int), v6 = .int .i64 x6_2 ∧ Aside0 (colloquyref02_less.l0 kq a0 a1 x5_2 x6_2 = some r) ∧ Aside0 (kq ≤ kj2) ∧ Drawn0 w w')
      case atStart => exact ⟨(0), (by first | rfl | (simp; done) | (simp [*]; done)), H', ⟨Nat.le_refl _⟩, by repeat (first | exact Drawn0.refl _ | apply Drawn0.step)⟩
      case round =>
        clear H'
        try clear c1
        try clear c2
        try clear p2
        try clear c4
        try clear c4b0
        try clear c4b1
        try clear p2
        obtain ⟨x6_2, rfl, HA, HK2, ⟨m2, rfl⟩⟩ := hrel
        cases gk with
        | zero => exact absurd HA.out (by simp [colloquyref02_less.l0])
        | succ k2 =>
          have H := HA.out
          clear HA
          simp only [colloquyref02_less.l0] at H
          by_cases c5 : x6_2 < x5_2
          · rw [if_pos c5] at H
            have c5b0 : decide (x6_2 < x5_2) = true := decide_eq_true c5
            clear c5
            have HC6 := Aside0.mk H
            clear H
            go_upto_if 27 with (fail)
            go_cut [7] (fun v7 wc => ∃ (kq : Nat) (x7_5 : Int), v7 = .int .u8 x7_5 ∧ Aside0 (colloquyref02_less.j2 kq a0 a1 x5_2 x6_2 x7_5 48 = some r) ∧ Aside0 (kq ≤ k2) ∧ Drawn0 w wc)
            case first =>
              have H := HC6.out
              clear HC6
              by_cases c7 : x6_2 ≥ (wrap64 (x5_2 - (a0.size : Int)))
              · rw [if_pos c7] at H
                have c7b0 : decide ((wrap64 (x5_2 - (a0.size : Int))) ≤ x6_2) = true := decide_eq_true c7
                clear c7
                (first | rw [c7b0] | rw [c7b1] | (simp only [i64_w, i32_w]; rw [c7b0]) | skip)
                obtain ⟨ji8, hji8⟩ : ∃ j_ : Int, (wrap64 (x6_2 - (wrap64 (x5_2 - (a0.size : Int))))) = j_ := ⟨_, rfl⟩
                replace H : (if 0 ≤ (ji8) then (if (ji8) < (a0.size : Int) then (colloquyref02_less.j2 k2 a0 a1 x5_2 x6_2 (bt a0 (ji8)) 48) else (none)) else (none)) = some r := by first | (rw [hji8] at H; exact H) | (simp only [hji8] at H ⊢; exact H)
                have hji8w : (IntKind.i64.wrap (x6_2 - (wrap64 (x5_2 - (a0.size : Int))))) = ji8 := (i64_w _).trans hji8
                by_cases c9 : 0 ≤ (ji8)
                · rw [if_pos c9] at H
                  have c9b0 : decide (0 ≤ (ji8)) = true := decide_eq_true c9
                  clear c9
                  by_cases c10 : (ji8) < (a0.size : Int)
                  · rw [if_pos c10] at H
                    have c10b0 : decide ((ji8) < (a0.size : Int)) = true := decide_eq_true c10
                    clear c10
                    have H' := Aside0.mk H
                    clear H
                    have p11 : 0 ≤ ((ji8) : Int) := of_decide_eq_true (by first | (with_reducible assumption) | assumption)
                    have q11 : (ji8) < (a0.size : Int) := of_decide_eq_true (by first | (with_reducible assumption) | assumption)
                    have hx11 := bt_at a0 (ji8)
                    replace p11 := eq_true p11
                    replace q11 := eq_true q11
                    go_wp2
                    go_meet
                    case rel => exact ⟨_, (bt a0 (ji8)), (by first | rfl | (simp; done) | (simp only [← hji8] <;> (first | rfl | simp)) | (simp [*]; done)), H', ⟨by have := HJ2.out; have := HK2.out; first | omega | exact Nat.le_refl _⟩, by repeat (first | exact Drawn0.refl _ | apply Drawn0.step)⟩
                  · rw [if_neg c10] at H
                    exact absurd H (by simp)
                · rw [if_neg c9] at H
                  exact absurd H (by simp)
              · rw [if_neg c7] at H
                have c7b0 : decide ((wrap64 (x5_2 - (a0.size : Int))) ≤ x6_2) = false := decide_eq_false c7
                clear c7
                (first | rw [c7b0] | rw [c7b1] | (simp only [i64_w, i32_w]; rw [c7b0]) | skip)
                have H' := Aside0.mk H
                clear H
                go_wp2
                go_meet
                case rel => exact ⟨_, (48), (by first | rfl | (simp; done) | (simp [*]; done)), H', ⟨by have := HJ2.out; have := HK2.out; first | omega | exact Nat.le_refl _⟩, by repeat (first | exact Drawn0.refl _ | apply Drawn0.step)⟩
            case rest =>
              clear HC6
              try clear c1
              try clear p1
              try clear q1
              try clear hx1
              try clear c2
              try clear p2
              try clear c4
              try clear c4b0
              try clear c4b1
              try clear c5
              try clear c5b0
              try clear p6
              try clear c7
              try clear c7b0
              try clear c7b1
              try clear c9
              try clear c9b0
              try clear c10
              try clear c10b0
              try clear p11
              try clear q11
              try clear hx11
              try clear p11
              try clear p2
              try clear q11
              obtain ⟨kq, x7_5, rfl, HA, HJ5, ⟨mc5, rfl⟩⟩ := hcut
              cases kq with
              | zero => exact absurd HA.out (by simp [colloquyref02_less.j2])
              | succ kj5 =>
                have H := HA.out
                clear HA
                simp only [colloquyref02_less.j2] at H
                by_cases c12 : x6_2 ≥ (wrap64 (x5_2 - (a1.size : Int)))
                · rw [if_pos c12] at H
                  have c12b0 : decide ((wrap64 (x5_2 - (a1.size : Int))) ≤ x6_2) = true := decide_eq_true c12
                  clear c12
                  obtain ⟨ji13, hji13⟩ : ∃ j_ : Int, (wrap64 (x6_2 - (wrap64 (x5_2 - (a1.size : Int))))) = j_ := ⟨_, rfl⟩
                  replace H : (if 0 ≤ (ji13) then (if (ji13) < (a1.size : Int) then (if x7_5 = (bt a1 (ji13)) then (colloquyref02_less.l0 kj5 a0 a1 x5_2 (wrap64 (x6_2 + 1))) else (some (decide (x7_5 < (bt a1 (ji13)))))) else (none)) else (none)) = some r := by first | (rw [hji13] at H; exact H) | (simp only [hji13] at H ⊢; exact H)
                  have hji13w : (IntKind.i64.wrap (x6_2 - (wrap64 (x5_2 - (a1.size : Int))))) = ji13 := (i64_w _).trans hji13
                  by_cases c14 : 0 ≤ (ji13)
                  · rw [if_pos c14] at H
                    have c14b0 : decide (0 ≤ (ji13)) = true := decide_eq_true c14
                    clear c14
                    by_cases c15 : (ji13) < (a1.size : Int)
                    · rw [if_pos c15] at H
                      have c15b0 : decide ((ji13) < (a1.size : Int)) = true := decide_eq_true c15
                      clear c15
                      by_cases c17 : x7_5 = (bt a1 (ji13))
                      · rw [if_pos c17] at H
                        have c17b0 : (x7_5 == (bt a1 (ji13))) = true := beq_iff_eq.mpr c17
                        have c17b1 : (x7_5 != (bt a1 (ji13))) = false := bne_eq_false_iff_eq.mpr c17
                        clear c17
                        have H' := Aside0.mk H
                        clear H
                        have p16 : 0 ≤ ((ji13) : Int) := of_decide_eq_true (by first | (with_reducible assumption) | assumption)
                        have q16 : (ji13) < (a1.size : Int) := of_decide_eq_true (by first | (with_reducible assumption) | assumption)
                        have hx16 := bt_at a1 (ji13)
                        replace p16 := eq_true p16
                        replace q16 := eq_true q16
                        go_wp2
                        go_roundg kj5
                        case measure => have := HJ2.out; have := HK2.out; have := HJ5.out; omega
                        case rel => exact ⟨(wrap64 (x6_2 + 1)), (by first | rfl | (simp; done) | (simp [*]; done)), H', ⟨by have := HJ2.out; have := HK2.out; have := HJ5.out; omega⟩, by repeat (first | exact Drawn0.refl _ | apply Drawn0.step)⟩
                      · rw [if_neg c17] at H
                        have c17b0 : (x7_5 == (bt a1 (ji13))) = false := beq_eq_false_iff_ne.mpr c17
                        have c17b1 : (x7_5 != (bt a1 (ji13))) = true := bne_iff_ne.mpr c17
                        obtain rfl := Option.some.inj H
                        have p16 : 0 ≤ ((ji13) : Int) := of_decide_eq_true (by first | (with_reducible assumption) | assumption)
                        have q16 : (ji13) < (a1.size : Int) := of_decide_eq_true (by first | (with_reducible assumption) | assumption)
                        have hx16 := bt_at a1 (ji13)
                        replace p16 := eq_true p16
                        replace q16 := eq_true q16
                        go_wp2
                        go_ret
                        exact ⟨by first | rfl | (simp; done) | (simp only [← hji13] <;> (first | rfl | simp)) | (simp [*]; done), by repeat (first | exact Drawn0.refl _ | apply Drawn0.step)⟩
                    · rw [if_neg c15] at H
                      exact absurd H (by simp)
                  · rw [if_neg c14] at H
                    exact absurd H (by simp)
                · rw [if_neg c12] at H
                  have c12b0 : decide ((wrap64 (x5_2 - (a1.size : Int))) ≤ x6_2) = false := decide_eq_false c12
                  clear c12
                  by_cases c18 : x7_5 = 48
                  · rw [if_pos c18] at H
                    have c18b0 : (x7_5 == 48) = true := beq_iff_eq.mpr c18
                    have c18b1 : (x7_5 != 48) = false := bne_eq_false_iff_eq.mpr c18
                    clear c18
                    have H' := Aside0.mk H
                    clear H
                    go_wp2
                    go_roundg kj5
                    case measure => have := HJ2.out; have := HK2.out; have := HJ5.out; omega
                    case rel => exact ⟨(wrap64 (x6_2 + 1)), (by first | rfl | (simp; done) | (simp [*]; done)), H', ⟨by have := HJ2.out; have := HK2.out; have := HJ5.out; omega⟩, by repeat (first | exact Drawn0.refl _ | apply Drawn0.step)⟩
                  · rw [if_neg c18] at H
                    have c18b0 : (x7_5 == 48) = false := beq_eq_false_iff_ne.mpr c18
                    have c18b1 : (x7_5 != 48) = true := bne_iff_ne.mpr c18
                    obtain rfl := Option.some.inj H
                    go_wp2
                    go_ret
                    exact ⟨by first | rfl | (simp; done) | (simp [*]; done), by repeat (first | exact Drawn0.refl _ | apply Drawn0.step)⟩
          · rw [if_neg c5] at H
            have c5b0 : decide (x6_2 < x5_2) = false := decide_eq_false c5
            clear c5
            obtain rfl := Option.some.inj H
            go_wp2
            go_ret
            exact ⟨by first | rfl | (simp; done) | (simp [*]; done), by repeat (first | exact Drawn0.refl _ | apply Drawn0.step)⟩

end Go.Proofs.YtoinmpjjmkpamaaDoor.PA
