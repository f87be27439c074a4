/- A Go function of the translation as a plain Lean function, with the proof that the call answers just so. Printed by a program of this session; Lean checks it. -/
import Derived.Test.YtmlemnfleicnfaaPAx0
import Derived.Test.YtmlemnfleicnfaaPAx3
import Derived.Test.YtmlemnfleicnfaaPAx29
namespace Go.Proofs.Ytmlemnfleicnfaa.PA
open Go.RowKit Go.Proofs.YtmlemnfleicnfaaW.PrintWords Go.Proofs.YtmlemnfleicnfaaW.PrintLast Go.Proofs.YtmlemnfleicnfaaW.PrintMore
attribute [local go_sem] max2_int min2_int max_two min_two max_three min_three max_four min_four   -- for this text's walks alone
set_option linter.unusedVariables false
set_option linter.unusedSimpArgs false

/-! ### colloquyref08_Split: function 27 -/
mutual
def colloquyref08_Split.j0 : Nat → List Int → Int → Bool → Option (List Int × Int × Bool)
  | 0, _, _, _ => none
  | k + 1, x0, x5, x42 => if x42 = true then (some (([] : List Int), 0, false)) else (if 8 ≤ (wrap64 (8 + x5)) then (if (wrap64 (8 + x5)) ≤ (x0.length : Int) then ((some ((x0.take ((wrap64 (8 + x5)) : Int).toNat).drop 8 : List Int)).bind fun y225 => ((colloquyref08_Sum.f k y225).bind fun t230 => ((colloquyref08_four.f (wrap64 (t230))).bind fun t231 => (colloquyref08_Split.l0 k x0 x5 y225 t231 0)))) else (none)) else (none))
def colloquyref08_Split.l0 : Nat → List Int → Int → List Int → List Int → Int → Option (List Int × Int × Bool)
  | 0, _, _, _, _, _ => none
  | k + 1, x0, x5, x6, x7, x8 => if x8 < 4 then (if 0 ≤ x8 then (if x8 < (x7.length : Int) then (if 0 ≤ (wrap64 (4 + x8)) then (if (wrap64 (4 + x8)) < (x0.length : Int) then (if (rd x7 x8) = (rd x0 (wrap64 (4 + x8))) then (colloquyref08_Split.l0 k x0 x5 x6 x7 (wrap64 (x8 + 1))) else (some (([] : List Int), 0, false))) else (none)) else (none)) else (none)) else (none)) else (some (x6, wrap64 (8 + x5), true))
end
def colloquyref08_Split.f (k : Nat) (l0 : List Int) : Option (List Int × Int × Bool) := if (l0.length : Int) < 8 then (some (([] : List Int), 0, false)) else (if 0 < (l0.length : Int) then (if 1 < (l0.length : Int) then (if 2 < (l0.length : Int) then (if 3 < (l0.length : Int) then (if (wrap64 ((wrap64 ((wrap64 ((wrap64 (rd l0 0)) + (wrap64 (256 * (wrap64 (rd l0 1)))))) + (wrap64 (65536 * (wrap64 (rd l0 2)))))) + (wrap64 (16777216 * (wrap64 (rd l0 3)))))) > 1073741824 then (colloquyref08_Split.j0 k l0 (wrap64 ((wrap64 ((wrap64 ((wrap64 (rd l0 0)) + (wrap64 (256 * (wrap64 (rd l0 1)))))) + (wrap64 (65536 * (wrap64 (rd l0 2)))))) + (wrap64 (16777216 * (wrap64 (rd l0 3)))))) true) else (colloquyref08_Split.j0 k l0 (wrap64 ((wrap64 ((wrap64 ((wrap64 (rd l0 0)) + (wrap64 (256 * (wrap64 (rd l0 1)))))) + (wrap64 (65536 * (wrap64 (rd l0 2)))))) + (wrap64 (16777216 * (wrap64 (rd l0 3)))))) (decide ((wrap64 ((wrap64 ((wrap64 ((wrap64 (rd l0 0)) + (wrap64 (256 * (wrap64 (rd l0 1)))))) + (wrap64 (65536 * (wrap64 (rd l0 2)))))) + (wrap64 (16777216 * (wrap64 (rd l0 3)))))) > (wrap64 ((l0.length : Int) - 8)))))) else (none)) else (none)) else (none)) else (none))
theorem colloquyref08_Split.mono_l : ∀ k, (∀ y0 y1 y2, LeO (colloquyref08_Split.j0 k y0 y1 y2) (colloquyref08_Split.j0 (k + 1) y0 y1 y2)) ∧ (∀ y0 y1 y2 y3 y4, LeO (colloquyref08_Split.l0 k y0 y1 y2 y3 y4) (colloquyref08_Split.l0 (k + 1) y0 y1 y2 y3 y4))
  | 0 => ⟨fun _ _ _ r h => by simp [colloquyref08_Split.j0] at h, fun _ _ _ _ _ r h => by simp [colloquyref08_Split.l0] at h⟩
  | k + 1 => by
    obtain ⟨ih0, ih1⟩ := colloquyref08_Split.mono_l k
    refine ⟨?_, ?_⟩
    · intro y0 y1 y2
      unfold colloquyref08_Split.j0
      repeat' first
      | (with_reducible exact ih0 _ _ _)
      | (with_reducible exact ih1 _ _ _ _ _)
      | (with_reducible exact colloquyref08_Sum.mono _ _)
      | (with_reducible exact LeO.refl _)
      | (with_reducible exact LeO.none _)
      | (with_reducible refine LeO.ite ?_ ?_)
      | (with_reducible refine LeO.bind ?_ (fun _ => ?_))
      | exact ih0 _ _ _
      | exact ih1 _ _ _ _ _
      | exact colloquyref08_Sum.mono _ _
      | exact LeO.none _
      | refine LeO.ite ?_ ?_
      | refine LeO.bind ?_ (fun _ => ?_)
    · intro y0 y1 y2 y3 y4
      unfold colloquyref08_Split.l0
      repeat' first
      | (with_reducible exact ih0 _ _ _)
      | (with_reducible exact ih1 _ _ _ _ _)
      | (with_reducible exact colloquyref08_Sum.mono _ _)
      | (with_reducible exact LeO.refl _)
      | (with_reducible exact LeO.none _)
      | (with_reducible refine LeO.ite ?_ ?_)
      | (with_reducible refine LeO.bind ?_ (fun _ => ?_))
      | exact ih0 _ _ _
      | exact ih1 _ _ _ _ _
      | exact colloquyref08_Sum.mono _ _
      | exact LeO.none _
      | refine LeO.ite ?_ ?_
      | refine LeO.bind ?_ (fun _ => ?_)
theorem colloquyref08_Split.mono : ∀ a0 k, LeO (colloquyref08_Split.f k a0) (colloquyref08_Split.f (k + 1) a0) := by
  intro a0 k
  obtain ⟨ih0, ih1⟩ := colloquyref08_Split.mono_l k
  unfold colloquyref08_Split.f
  repeat' first
      | (with_reducible exact ih0 _ _ _)
      | (with_reducible exact ih1 _ _ _ _ _)
      | (with_reducible exact colloquyref08_Sum.mono _ _)
      | (with_reducible exact LeO.refl _)
      | (with_reducible exact LeO.none _)
      | (with_reducible refine LeO.ite ?_ ?_)
      | (with_reducible refine LeO.bind ?_ (fun _ => ?_))
      | exact ih0 _ _ _
      | exact ih1 _ _ _ _ _
      | exact colloquyref08_Sum.mono _ _
      | exact LeO.none _
      | refine LeO.ite ?_ ?_
      | refine LeO.bind ?_ (fun _ => ?_)
set_option maxHeartbeats 8000000 in
set_option maxRecDepth 100000 in
theorem colloquyref08_Split.calls (k : Nat) (P0_ : Nat → Prop) (A0 : Option Addr) (c0 : Nat) (l0 : List Int) (r1 : List Int) (r2 : Int) (r3 : Bool) (w : World) (hs0 : Kd.V (Kd.int .u8) 5 w w.heap.size (fun k_ => P0_ k_) (.slice A0 l0.length c0) l0) (h : colloquyref08_Split.f k l0 = some (r1, r2, r3)) :
    Calls Try.prog 27 #[.slice A0 l0.length c0] w fun e w' => ∃ v0_ : Value, e = .returned (.tuple #[v0_, .int .i64 r2, .bool r3]) ∧ Kd.V (Kd.int .u8) 5 w' w.heap.size (fun k_ => (P0_ k_ ∨ w.heap.size ≤ k_)) v0_ r1 ∧ Below w.heap.size w w' := by
  have HO0 := Aside0.mk (show Kd.V (Kd.int .u8) 5 w w.heap.size (fun k_ => (P0_ k_ ∨ w.heap.size ≤ k_)) (.slice A0 l0.length c0) l0 from Kd.V_mono hs0 (fun k_ hk => .inl hk))
  have HB := Aside0.mk (Below.refl w.heap.size w)
  have H : (if (l0.length : Int) < 8 then (some (([] : List Int), 0, false)) else (if 0 < (l0.length : Int) then (if 1 < (l0.length : Int) then (if 2 < (l0.length : Int) then (if 3 < (l0.length : Int) then (if (wrap64 ((wrap64 ((wrap64 ((wrap64 (rd l0 0)) + (wrap64 (256 * (wrap64 (rd l0 1)))))) + (wrap64 (65536 * (wrap64 (rd l0 2)))))) + (wrap64 (16777216 * (wrap64 (rd l0 3)))))) > 1073741824 then (colloquyref08_Split.j0 k l0 (wrap64 ((wrap64 ((wrap64 ((wrap64 (rd l0 0)) + (wrap64 (256 * (wrap64 (rd l0 1)))))) + (wrap64 (65536 * (wrap64 (rd l0 2)))))) + (wrap64 (16777216 * (wrap64 (rd l0 3)))))) true) else (colloquyref08_Split.j0 k l0 (wrap64 ((wrap64 ((wrap64 ((wrap64 (rd l0 0)) + (wrap64 (256 * (wrap64 (rd l0 1)))))) + (wrap64 (65536 * (wrap64 (rd l0 2)))))) + (wrap64 (16777216 * (wrap64 (rd l0 3)))))) (decide ((wrap64 ((wrap64 ((wrap64 ((wrap64 (rd l0 0)) + (wrap64 (256 * (wrap64 (rd l0 1)))))) + (wrap64 (65536 * (wrap64 (rd l0 2)))))) + (wrap64 (16777216 * (wrap64 (rd l0 3)))))) > (wrap64 ((l0.length : Int) - 8)))))) else (none)) else (none)) else (none)) else (none))) = some (r1, r2, r3) := h
  clear h
  by_cases c2 : (l0.length : Int) < 8
  · rw [if_pos c2] at H
    have c2b0 : decide ((l0.length : Int) < 8) = true := decide_eq_true c2
    have c2b1 : decide (l0.length < 8) = true := decide_eq_true (by omega)
    clear c2
    simp only [Option.some.injEq, Prod.mk.injEq] at H
    obtain ⟨rfl, rfl, rfl⟩ := H
    go_enter Try.func27, Try.ntmps27
    go_wp2
    repeat (go_quiet (fail); try go_wp2)
    go_ret3
    exact ⟨_, by first | rfl | (simp [errW_none, errW_some] <;> rfl) | (simp [*, errW_none, errW_some] <;> rfl), (by first | exact Kd.V_nil _ _ _ _ _ | exact Kd.V_mono (Kd.R_V (by first | exact Kd.R_nil _ _ _ _ _ | exact Kd.N_nil _ _ _ _ _ | exact Kd.V_nil _ _ _ _ _ | exact Kd.Q_nil _ _ _ _ _ | exact Kd.S_nil _ _ _ _ _)) (fun k_ hk => by first | exact ⟨(.inr (hk.1)), hk.2⟩ | exact (.inr (hk)))), by repeat (first | (with_reducible first | exact HB.out | apply below_alloc | apply pw_below_drewN | apply below_drew1) | exact HB.out)⟩
  · rw [if_neg c2] at H
    have c2b0 : decide ((l0.length : Int) < 8) = false := decide_eq_false c2
    have c2b1 : decide (l0.length < 8) = false := decide_eq_false (by omega)
    clear c2
    by_cases c3 : 0 < (l0.length : Int)
    · rw [if_pos c3] at H
      have c3b0 : decide (0 < (l0.length : Int)) = true := decide_eq_true c3
      have c3b1 : decide (0 < l0.length) = true := decide_eq_true (by omega)
      clear c3
      by_cases c4 : 1 < (l0.length : Int)
      · rw [if_pos c4] at H
        have c4b0 : decide (1 < (l0.length : Int)) = true := decide_eq_true c4
        have c4b1 : decide (1 < l0.length) = true := decide_eq_true (by omega)
        clear c4
        by_cases c5 : 2 < (l0.length : Int)
        · rw [if_pos c5] at H
          have c5b0 : decide (2 < (l0.length : Int)) = true := decide_eq_true c5
          have c5b1 : decide (2 < l0.length) = true := decide_eq_true (by omega)
          clear c5
          by_cases c6 : 3 < (l0.length : Int)
          · rw [if_pos c6] at H
            have c6b0 : decide (3 < (l0.length : Int)) = true := decide_eq_true c6
            have c6b1 : decide (3 < l0.length) = true := decide_eq_true (by omega)
            clear c6
            have HC7 := Aside0.mk H
            clear H
            have p221 : 0 ≤ (0 : Int) := (by omega)
            have q221 : 0 < (l0.length : Int) := of_decide_eq_true (by first | (with_reducible assumption) | assumption)
            obtain ⟨ad221, e221, hx221_0⟩ := Kd.at_int (Kd.V_reads' HO0.out).2.2 0 p221 q221
            cases e221
            have qi221 : (0 < l0.length) = True := eq_true (by omega)
            (try rw [show ((0 : Int)).toNat = 0 from rfl] at hx221_0)
            (try rw [Addr.add_zero'] at hx221_0)
            replace p221 := eq_true p221
            replace q221 := eq_true q221
            have p222 : 0 ≤ (1 : Int) := (by omega)
            have q222 : 1 < (l0.length : Int) := of_decide_eq_true (by first | (with_reducible assumption) | assumption)
            obtain ⟨ad222, e222, hx222_0⟩ := Kd.at_int (Kd.V_reads' HO0.out).2.2 1 p222 q222
            obtain rfl : ad221 = ad222 := (by injection e222)
            (try simp only [show (1 : Int).toNat = 1 from rfl, Nat.reduceMul, Nat.reduceEqDiff, Go.Addr.add, ↓reduceIte] at hx222_0)
            have qi222 : (1 < l0.length) = True := eq_true (by omega)
            (try rw [show ((1 : Int)).toNat = 1 from rfl] at hx222_0)
            replace p222 := eq_true p222
            replace q222 := eq_true q222
            have p223 : 0 ≤ (2 : Int) := (by omega)
            have q223 : 2 < (l0.length : Int) := of_decide_eq_true (by first | (with_reducible assumption) | assumption)
            obtain ⟨ad223, e223, hx223_0⟩ := Kd.at_int (Kd.V_reads' HO0.out).2.2 2 p223 q223
            obtain rfl : ad221 = ad223 := (by injection e223)
            (try simp only [show (2 : Int).toNat = 2 from rfl, Nat.reduceMul, Nat.reduceEqDiff, Go.Addr.add, ↓reduceIte] at hx223_0)
            have qi223 : (2 < l0.length) = True := eq_true (by omega)
            (try rw [show ((2 : Int)).toNat = 2 from rfl] at hx223_0)
            replace p223 := eq_true p223
            replace q223 := eq_true q223
            have p224 : 0 ≤ (3 : Int) := (by omega)
            have q224 : 3 < (l0.length : Int) := of_decide_eq_true (by first | (with_reducible assumption) | assumption)
            obtain ⟨ad224, e224, hx224_0⟩ := Kd.at_int (Kd.V_reads' HO0.out).2.2 3 p224 q224
            obtain rfl : ad221 = ad224 := (by injection e224)
            (try simp only [show (3 : Int).toNat = 3 from rfl, Nat.reduceMul, Nat.reduceEqDiff, Go.Addr.add, ↓reduceIte] at hx224_0)
            have qi224 : (3 < l0.length) = True := eq_true (by omega)
            (try rw [show ((3 : Int)).toNat = 3 from rfl] at hx224_0)
            replace p224 := eq_true p224
            replace q224 := eq_true q224
            go_enter Try.func27, Try.ntmps27
            go_upto_region 4 with (fail)
            repeat (go_quiet (fail); go_upto_region 4 with (fail))
            go_cut [42] (fun v42 wc => ∃ (kq : Nat) (x42_6 : Bool), v42 = .bool x42_6 ∧ Aside0 (colloquyref08_Split.j0 kq l0 (wrap64 ((wrap64 ((wrap64 ((wrap64 (rd l0 0)) + (wrap64 (256 * (wrap64 (rd l0 1)))))) + (wrap64 (65536 * (wrap64 (rd l0 2)))))) + (wrap64 (16777216 * (wrap64 (rd l0 3)))))) x42_6 = some (r1, r2, r3)) ∧ Aside0 (kq ≤ k) ∧ Aside0 (Kd.V (Kd.int .u8) 5 wc w.heap.size (fun k_ => (P0_ k_ ∨ w.heap.size ≤ k_)) (.slice (some ad221) l0.length c0) l0) ∧ Aside0 (Below w.heap.size w wc))
            case first =>
              have H := HC7.out
              clear HC7
              by_cases c8 : (wrap64 ((wrap64 ((wrap64 ((wrap64 (rd l0 0)) + (wrap64 (256 * (wrap64 (rd l0 1)))))) + (wrap64 (65536 * (wrap64 (rd l0 2)))))) + (wrap64 (16777216 * (wrap64 (rd l0 3)))))) > 1073741824
              · rw [if_pos c8] at H
                have c8b0 : decide (1073741824 < (wrap64 ((wrap64 ((wrap64 ((wrap64 (rd l0 0)) + (wrap64 (256 * (wrap64 (rd l0 1)))))) + (wrap64 (65536 * (wrap64 (rd l0 2)))))) + (wrap64 (16777216 * (wrap64 (rd l0 3))))))) = true := decide_eq_true c8
                clear c8
                (first | rw [c8b0] | (simp only [i64_w, i32_w]; rw [c8b0]) | skip)
                have H' := Aside0.mk H
                clear H
                go_wp2
                repeat (go_quiet (fail); try go_wp2)
                go_meet
                case rel => exact ⟨_, (true), (by first | rfl | (simp; done) | (simp [*]; done)), H', ⟨by first | omega | exact Nat.le_refl _⟩, ⟨by (with_reducible repeat (first | apply Kd.V_alloc | apply Kd.V_drewN | apply Kd.V_drew)); exact HO0.out⟩, ⟨by repeat (first | (with_reducible first | exact HB.out | apply below_alloc | apply pw_below_drewN | apply below_drew1) | exact HB.out)⟩⟩
              · rw [if_neg c8] at H
                have c8b0 : decide (1073741824 < (wrap64 ((wrap64 ((wrap64 ((wrap64 (rd l0 0)) + (wrap64 (256 * (wrap64 (rd l0 1)))))) + (wrap64 (65536 * (wrap64 (rd l0 2)))))) + (wrap64 (16777216 * (wrap64 (rd l0 3))))))) = false := decide_eq_false c8
                clear c8
                (first | rw [c8b0] | (simp only [i64_w, i32_w]; rw [c8b0]) | skip)
                have H' := Aside0.mk H
                clear H
                go_wp2
                repeat (go_quiet (fail); try go_wp2)
                go_meet
                case rel => exact ⟨_, (decide ((wrap64 ((wrap64 ((wrap64 ((wrap64 (rd l0 0)) + (wrap64 (256 * (wrap64 (rd l0 1)))))) + (wrap64 (65536 * (wrap64 (rd l0 2)))))) + (wrap64 (16777216 * (wrap64 (rd l0 3)))))) > (wrap64 ((l0.length : Int) - 8)))), (by first | rfl | (simp; done) | (simp [*]; done)), H', ⟨by first | omega | exact Nat.le_refl _⟩, ⟨by (with_reducible repeat (first | apply Kd.V_alloc | apply Kd.V_drewN | apply Kd.V_drew)); exact HO0.out⟩, ⟨by repeat (first | (with_reducible first | exact HB.out | apply below_alloc | apply pw_below_drewN | apply below_drew1) | exact HB.out)⟩⟩
            case rest =>
              clear HC7
              try clear c2
              try clear c2b0
              try clear c2b1
              try clear p2
              try clear q2
              try clear hx2
              try clear qi2
              try clear c3
              try clear c3b0
              try clear c3b1
              try clear c4
              try clear c4b0
              try clear c4b1
              try clear c5
              try clear c5b0
              try clear c5b1
              try clear c6
              try clear c6b0
              try clear c6b1
              try clear p6
              try clear c8
              try clear c8b0
              try clear hx221_0
              try clear hx222_0
              try clear hx223_0
              try clear hx224_0
              try clear p221
              try clear p222
              try clear p223
              try clear p224
              try clear q221
              try clear q222
              try clear q223
              try clear q224
              obtain ⟨kq, x42_6, rfl, HA, HJ6, HO_0, HB⟩ := hcut
              cases kq with
              | zero => exact absurd HA.out (by simp [colloquyref08_Split.j0])
              | succ kj6 =>
                have H := HA.out
                clear HA
                simp only [colloquyref08_Split.j0] at H
                by_cases c9 : x42_6 = true
                · subst c9
                  have H1 : (some (([] : List Int), 0, false)) = some (r1, r2, r3) := by rw [if_pos rfl] at H; exact H
                  clear H
                  have H := H1
                  clear H1
                  simp only [Option.some.injEq, Prod.mk.injEq] at H
                  obtain ⟨rfl, rfl, rfl⟩ := H
                  go_wp2
                  repeat (go_quiet (fail); try go_wp2)
                  go_ret3
                  exact ⟨_, by first | rfl | (simp [errW_none, errW_some] <;> rfl) | (simp [*, errW_none, errW_some] <;> rfl), (by first | exact Kd.V_nil _ _ _ _ _ | exact Kd.V_mono (Kd.R_V (by first | exact Kd.R_nil _ _ _ _ _ | exact Kd.N_nil _ _ _ _ _ | exact Kd.V_nil _ _ _ _ _ | exact Kd.Q_nil _ _ _ _ _ | exact Kd.S_nil _ _ _ _ _)) (fun k_ hk => by first | exact ⟨(.inr (hk.1)), hk.2⟩ | exact (.inr (hk)))), by repeat (first | (with_reducible first | exact HB.out | apply below_alloc | apply pw_below_drewN | apply below_drew1) | exact HB.out)⟩
                · replace c9 := Bool.eq_false_iff.mpr c9
                  subst c9
                  have H1 : (if 8 ≤ (wrap64 (8 + (wrap64 ((wrap64 ((wrap64 ((wrap64 (rd l0 0)) + (wrap64 (256 * (wrap64 (rd l0 1)))))) + (wrap64 (65536 * (wrap64 (rd l0 2)))))) + (wrap64 (16777216 * (wrap64 (rd l0 3)))))))) then (if (wrap64 (8 + (wrap64 ((wrap64 ((wrap64 ((wrap64 (rd l0 0)) + (wrap64 (256 * (wrap64 (rd l0 1)))))) + (wrap64 (65536 * (wrap64 (rd l0 2)))))) + (wrap64 (16777216 * (wrap64 (rd l0 3)))))))) ≤ (l0.length : Int) then ((some ((l0.take ((wrap64 (8 + (wrap64 ((wrap64 ((wrap64 ((wrap64 (rd l0 0)) + (wrap64 (256 * (wrap64 (rd l0 1)))))) + (wrap64 (65536 * (wrap64 (rd l0 2)))))) + (wrap64 (16777216 * (wrap64 (rd l0 3)))))))) : Int).toNat).drop 8 : List Int)).bind fun y225 => ((colloquyref08_Sum.f kj6 y225).bind fun t230 => ((colloquyref08_four.f (wrap64 (t230))).bind fun t231 => (colloquyref08_Split.l0 kj6 l0 (wrap64 ((wrap64 ((wrap64 ((wrap64 (rd l0 0)) + (wrap64 (256 * (wrap64 (rd l0 1)))))) + (wrap64 (65536 * (wrap64 (rd l0 2)))))) + (wrap64 (16777216 * (wrap64 (rd l0 3)))))) y225 t231 0)))) else (none)) else (none)) = some (r1, r2, r3) := by rw [if_neg (show ¬ (false = true) by decide)] at H; exact H
                  clear H
                  have H := H1
                  clear H1
                  by_cases c10 : 8 ≤ (wrap64 (8 + (wrap64 ((wrap64 ((wrap64 ((wrap64 (rd l0 0)) + (wrap64 (256 * (wrap64 (rd l0 1)))))) + (wrap64 (65536 * (wrap64 (rd l0 2)))))) + (wrap64 (16777216 * (wrap64 (rd l0 3))))))))
                  · rw [if_pos c10] at H
                    have c10b0 := eq_true c10
                    have c10b1 : decide (8 ≤ (wrap64 (8 + (wrap64 ((wrap64 ((wrap64 ((wrap64 (rd l0 0)) + (wrap64 (256 * (wrap64 (rd l0 1)))))) + (wrap64 (65536 * (wrap64 (rd l0 2)))))) + (wrap64 (16777216 * (wrap64 (rd l0 3))))))))) = true := decide_eq_true c10
                    by_cases c11 : (wrap64 (8 + (wrap64 ((wrap64 ((wrap64 ((wrap64 (rd l0 0)) + (wrap64 (256 * (wrap64 (rd l0 1)))))) + (wrap64 (65536 * (wrap64 (rd l0 2)))))) + (wrap64 (16777216 * (wrap64 (rd l0 3)))))))) ≤ (l0.length : Int)
                    · rw [if_pos c11] at H
                      have c11b0 := eq_true c11
                      have c11b1 : decide ((wrap64 (8 + (wrap64 ((wrap64 ((wrap64 ((wrap64 (rd l0 0)) + (wrap64 (256 * (wrap64 (rd l0 1)))))) + (wrap64 (65536 * (wrap64 (rd l0 2)))))) + (wrap64 (16777216 * (wrap64 (rd l0 3)))))))) ≤ (l0.length : Int)) = true := decide_eq_true c11
                      obtain ⟨y225, hy225⟩ : ∃ y_ : List Int, y_ = ((l0.take ((wrap64 (8 + (wrap64 ((wrap64 ((wrap64 ((wrap64 (rd l0 0)) + (wrap64 (256 * (wrap64 (rd l0 1)))))) + (wrap64 (65536 * (wrap64 (rd l0 2)))))) + (wrap64 (16777216 * (wrap64 (rd l0 3)))))))) : Int).toNat).drop 8) := ⟨_, rfl⟩
                      replace H : ((colloquyref08_Sum.f kj6 y225).bind fun t230 => ((colloquyref08_four.f (wrap64 (t230))).bind fun t231 => (colloquyref08_Split.l0 kj6 l0 (wrap64 ((wrap64 ((wrap64 ((wrap64 (rd l0 0)) + (wrap64 (256 * (wrap64 (rd l0 1)))))) + (wrap64 (65536 * (wrap64 (rd l0 2)))))) + (wrap64 (16777216 * (wrap64 (rd l0 3)))))) y225 t231 0))) = some (r1, r2, r3) := by first | (rw [hy225]; with_reducible exact H) | (have H2_ := (Option.bind_some _ _).symm.trans H; rw [hy225]; with_reducible exact H2_) | (have H2_ := (Option.bind_some _ _).symm.trans H; with_reducible exact H2_) | with_reducible exact H | (rw [hy225]; exact H) | exact H
                      have Ny225 := Aside0.mk hy225
                      clear hy225
                      replace H := Option.bind_eq_some_iff.mp H
                      obtain ⟨t230, A120, H⟩ := H
                      replace H : ((colloquyref08_four.f (wrap64 (t230))).bind fun t231 => (colloquyref08_Split.l0 kj6 l0 (wrap64 ((wrap64 ((wrap64 ((wrap64 (rd l0 0)) + (wrap64 (256 * (wrap64 (rd l0 1)))))) + (wrap64 (65536 * (wrap64 (rd l0 2)))))) + (wrap64 (16777216 * (wrap64 (rd l0 3)))))) y225 t231 0)) = some (r1, r2, r3) := H
                      have A12 := Aside0.mk A120
                      clear A120
                      replace H := Option.bind_eq_some_iff.mp H
                      obtain ⟨t231, A130, H⟩ := H
                      replace H : (colloquyref08_Split.l0 kj6 l0 (wrap64 ((wrap64 ((wrap64 ((wrap64 (rd l0 0)) + (wrap64 (256 * (wrap64 (rd l0 1)))))) + (wrap64 (65536 * (wrap64 (rd l0 2)))))) + (wrap64 (16777216 * (wrap64 (rd l0 3)))))) y225 t231 0) = some (r1, r2, r3) := H
                      have A13 := Aside0.mk A130
                      clear A130
                      have H' := Aside0.mk H
                      clear H
                      have q14 : ((wrap64 (8 + (wrap64 ((wrap64 ((wrap64 ((wrap64 (rd l0 0)) + (wrap64 (256 * (wrap64 (rd l0 1)))))) + (wrap64 (65536 * (wrap64 (rd l0 2)))))) + (wrap64 (16777216 * (wrap64 (rd l0 3)))))))) : Int) ≤ ((l0.length : Int) : Int) := of_decide_eq_true (by first | (with_reducible assumption) | assumption)
                      obtain ⟨i014, hi014, _, hsz14, _⟩ := info_parts info5
                      have hroom14 : l0.length ≤ c0 := (Kd.V_reads' HO_0.out).2.1
                      have hC14 : Kd.F (Kd.int .u8) _ _ (some ad221) l0.length l0 := (Kd.V_at (base := w.heap.size) HO_0.out).2.2
                      have ql14 : (8 : Int) ≤ ((wrap64 (8 + (wrap64 ((wrap64 ((wrap64 ((wrap64 (rd l0 0)) + (wrap64 (256 * (wrap64 (rd l0 1)))))) + (wrap64 (65536 * (wrap64 (rd l0 2)))))) + (wrap64 (16777216 * (wrap64 (rd l0 3)))))))) : Int) := of_decide_eq_true (by first | (with_reducible assumption) | assumption)
                      have hcut14 := cut_mid (P := Try.prog) 22 5 .i64 .i64 Try.underlying22 hi014 1 hsz14 (some ad221) l0.length c0 8 (wrap64 (8 + (wrap64 ((wrap64 ((wrap64 ((wrap64 (rd l0 0)) + (wrap64 (256 * (wrap64 (rd l0 1)))))) + (wrap64 (65536 * (wrap64 (rd l0 2)))))) + (wrap64 (16777216 * (wrap64 (rd l0 3)))))))) (by omega) ql14 q14 hroom14
                      have hr14 := Kd.F_mid (lo := (8 : Int).toNat) (hi := ((wrap64 (8 + (wrap64 ((wrap64 ((wrap64 ((wrap64 (rd l0 0)) + (wrap64 (256 * (wrap64 (rd l0 1)))))) + (wrap64 (65536 * (wrap64 (rd l0 2)))))) + (wrap64 (16777216 * (wrap64 (rd l0 3)))))))) : Int).toNat) (c := c0) hC14 (by omega) (by omega) hroom14
                      obtain ⟨A14, hA14⟩ : ∃ A1, A1 = (if c0 = (8 : Int).toNat then (some ad221) else ((some ad221) : Option Addr).map (·.add ((8 : Int).toNat * 1))) := ⟨_, rfl⟩
                      obtain ⟨c14, hc14⟩ : ∃ c1, c1 = c0 - (8 : Int).toNat := ⟨_, rfl⟩
                      have hy14 : y225.length = ((wrap64 (8 + (wrap64 ((wrap64 ((wrap64 ((wrap64 (rd l0 0)) + (wrap64 (256 * (wrap64 (rd l0 1)))))) + (wrap64 (65536 * (wrap64 (rd l0 2)))))) + (wrap64 (16777216 * (wrap64 (rd l0 3)))))))) : Int).toNat - (8 : Int).toNat := (by rw [Ny225.out, List.length_drop, List.length_take] <;> omega)
                      rw [show ((l0).take ((wrap64 (8 + (wrap64 ((wrap64 ((wrap64 ((wrap64 (rd l0 0)) + (wrap64 (256 * (wrap64 (rd l0 1)))))) + (wrap64 (65536 * (wrap64 (rd l0 2)))))) + (wrap64 (16777216 * (wrap64 (rd l0 3)))))))) : Int).toNat).drop (8 : Int).toNat = y225 from Ny225.out.symm] at hr14
                      replace hr14 : Kd.F (Kd.int .u8) _ _ A14 y225.length y225 := (by rw [hA14]; exact hr14)
                      rw [← hy14, ← hA14, ← hc14] at hcut14
                      have HO229 := Aside0.mk (show Kd.V (Kd.int .u8) 5 _ w.heap.size _ (.slice A14 y225.length c14) y225 from Kd.V_mk (by rw [hy14, hc14]; exact Nat.sub_le_sub_right (Nat.le_trans (by omega) hroom14) _) hr14)
                      have HC229 := Aside0.mk (show y225.length ≤ c14 from by rw [hy14, hc14]; exact Nat.sub_le_sub_right (Nat.le_trans (by omega) hroom14) _)
                      clear hr14 hC14 hroom14 hi014 hsz14 hc14
                      have KY14 := Aside0.mk hy14
                      have KA14 := Aside0.mk hA14
                      clear hy14 hA14
                      replace q14 := eq_true q14
                      go_wp2_with (first | (go_at_call 17; (with_reducible refine (colloquyref08_Sum.calls kj6 _ _ y225 t230 _ ?side1 ?side2 A12.out).mono ?_); (case side1 => repeat (first | exact (Kd.V_reads' HO229.out).2.2 | (with_reducible refine Kd.C_alloc ?_ _) | (with_reducible refine Kd.C_drewN ?_ _) | (with_reducible refine Kd.C_drew ?_))); (case side2 => exact (Kd.V_reads' HO229.out).2.1); rintro e w' ⟨rfl, ⟨nd, rfl⟩⟩; (try first | exact ⟨rfl, _, World.drewN_drewN _ _ _⟩ | exact ⟨rfl, _, Eq.trans (World.drewN_drewN _ _ _) (congrArg (World.drewN _) (Nat.add_assoc _ _ _))⟩)) | (go_at_call 59; (with_reducible refine (colloquyref08_four.calls (wrap64 (t230)) t231 _ A13.out).mono ?_); rintro e w15 ⟨v232, rfl, ho0, hb⟩; have n0_ := Aside0.mk (Kd.V_elder' (by (with_reducible repeat (first | apply Kd.V_alloc | apply Kd.V_drewN | apply Kd.V_drew)); exact HO_0.out) (Kd.R_base ho0) hb); have n1_ := Aside0.mk (Kd.V_elder' (by (with_reducible repeat (first | apply Kd.V_alloc | apply Kd.V_drewN | apply Kd.V_drew)); exact HO229.out) (Kd.R_base ho0) hb); have n2_ := Aside0.mk (Kd.R_lower (Kd.R_newM (M := fun k_ => (w.heap.size ≤ k_)) ho0 (below_size (by repeat (first | (with_reducible first | exact HB.out | apply below_alloc | apply pw_below_drewN | apply below_drew1) | exact HB.out))) (fun k_ h_ => h_)) (below_size (by repeat (first | (with_reducible first | exact HB.out | apply below_alloc | apply pw_below_drewN | apply below_drew1) | exact HB.out)))); have n3_ := Aside0.mk (below_step (by repeat (first | (with_reducible first | exact HB.out | apply below_alloc | apply pw_below_drewN | apply below_drew1) | exact HB.out)) hb); clear HO_0; clear HO229; clear HB; have HO_0 := n0_; have HO229 := n1_; have HO233 := n2_; have HB := n3_; clear n0_ n1_ n2_ n3_; (try clear hb); (try clear hb2); (try clear hk); (try clear hi); (try clear ho0)))
                      repeat (go_quiet (first | (go_at_call 17; (with_reducible refine (colloquyref08_Sum.calls kj6 _ _ y225 t230 _ ?side1 ?side2 A12.out).mono ?_); (case side1 => repeat (first | exact (Kd.V_reads' HO229.out).2.2 | (with_reducible refine Kd.C_alloc ?_ _) | (with_reducible refine Kd.C_drewN ?_ _) | (with_reducible refine Kd.C_drew ?_))); (case side2 => exact (Kd.V_reads' HO229.out).2.1); rintro e w' ⟨rfl, ⟨nd, rfl⟩⟩; (try first | exact ⟨rfl, _, World.drewN_drewN _ _ _⟩ | exact ⟨rfl, _, Eq.trans (World.drewN_drewN _ _ _) (congrArg (World.drewN _) (Nat.add_assoc _ _ _))⟩)) | (go_at_call 59; (with_reducible refine (colloquyref08_four.calls (wrap64 (t230)) t231 _ A13.out).mono ?_); rintro e w15 ⟨v232, rfl, ho0, hb⟩; have n0_ := Aside0.mk (Kd.V_elder' (by (with_reducible repeat (first | apply Kd.V_alloc | apply Kd.V_drewN | apply Kd.V_drew)); exact HO_0.out) (Kd.R_base ho0) hb); have n1_ := Aside0.mk (Kd.V_elder' (by (with_reducible repeat (first | apply Kd.V_alloc | apply Kd.V_drewN | apply Kd.V_drew)); exact HO229.out) (Kd.R_base ho0) hb); have n2_ := Aside0.mk (Kd.R_lower (Kd.R_newM (M := fun k_ => (w.heap.size ≤ k_)) ho0 (below_size (by repeat (first | (with_reducible first | exact HB.out | apply below_alloc | apply pw_below_drewN | apply below_drew1) | exact HB.out))) (fun k_ h_ => h_)) (below_size (by repeat (first | (with_reducible first | exact HB.out | apply below_alloc | apply pw_below_drewN | apply below_drew1) | exact HB.out)))); have n3_ := Aside0.mk (below_step (by repeat (first | (with_reducible first | exact HB.out | apply below_alloc | apply pw_below_drewN | apply below_drew1) | exact HB.out)) hb); clear HO_0; clear HO229; clear HB; have HO_0 := n0_; have HO229 := n1_; have HO233 := n2_; have HB := n3_; clear n0_ n1_ n2_ n3_; (try clear hb); (try clear hb2); (try clear hk); (try clear hi); (try clear ho0))); try go_wp2_with (first | (go_at_call 17; (with_reducible refine (colloquyref08_Sum.calls kj6 _ _ y225 t230 _ ?side1 ?side2 A12.out).mono ?_); (case side1 => repeat (first | exact (Kd.V_reads' HO229.out).2.2 | (with_reducible refine Kd.C_alloc ?_ _) | (with_reducible refine Kd.C_drewN ?_ _) | (with_reducible refine Kd.C_drew ?_))); (case side2 => exact (Kd.V_reads' HO229.out).2.1); rintro e w' ⟨rfl, ⟨nd, rfl⟩⟩; (try first | exact ⟨rfl, _, World.drewN_drewN _ _ _⟩ | exact ⟨rfl, _, Eq.trans (World.drewN_drewN _ _ _) (congrArg (World.drewN _) (Nat.add_assoc _ _ _))⟩)) | (go_at_call 59; (with_reducible refine (colloquyref08_four.calls (wrap64 (t230)) t231 _ A13.out).mono ?_); rintro e w15 ⟨v232, rfl, ho0, hb⟩; have n0_ := Aside0.mk (Kd.V_elder' (by (with_reducible repeat (first | apply Kd.V_alloc | apply Kd.V_drewN | apply Kd.V_drew)); exact HO_0.out) (Kd.R_base ho0) hb); have n1_ := Aside0.mk (Kd.V_elder' (by (with_reducible repeat (first | apply Kd.V_alloc | apply Kd.V_drewN | apply Kd.V_drew)); exact HO229.out) (Kd.R_base ho0) hb); have n2_ := Aside0.mk (Kd.R_lower (Kd.R_newM (M := fun k_ => (w.heap.size ≤ k_)) ho0 (below_size (by repeat (first | (with_reducible first | exact HB.out | apply below_alloc | apply pw_below_drewN | apply below_drew1) | exact HB.out))) (fun k_ h_ => h_)) (below_size (by repeat (first | (with_reducible first | exact HB.out | apply below_alloc | apply pw_below_drewN | apply below_drew1) | exact HB.out)))); have n3_ := Aside0.mk (below_step (by repeat (first | (with_reducible first | exact HB.out | apply below_alloc | apply pw_below_drewN | apply below_drew1) | exact HB.out)) hb); clear HO_0; clear HO229; clear HB; have HO_0 := n0_; have HO229 := n1_; have HO233 := n2_; have HB := n3_; clear n0_ n1_ n2_ n3_; (try clear hb); (try clear hb2); (try clear hk); (try clear hi); (try clear ho0))))
                      go_loopg [8] kj6 (fun kq v8 w' => ∃ (x8_2 : Int), v8 = .int .i64 x8_2 ∧ Aside0 (colloquyref08_Split.l0 kq l0 (wrap64 ((wrap64 ((wrap64 ((wrap64 (rd l0 0)) + (wrap64 (256 * (wrap64 (rd l0 1)))))) + (wrap64 (65536 * (wrap64 (rd l0 2)))))) + (wrap64 (16777216 * (wrap64 (rd l0 3)))))) y225 t231 x8_2 = some (r1, r2, r3)) ∧ Aside0 (kq ≤ kj6) ∧ Aside0 (Kd.V (Kd.int .u8) 5 w' w.heap.size (fun k_ => (P0_ k_ ∨ w.heap.size ≤ k_) ∧ some k_ ≠ (v232 : Value).ownBlock) (.slice (some ad221) l0.length c0) l0) ∧ Aside0 (Kd.V (Kd.int .u8) 5 w' w.heap.size (fun k_ => (P0_ k_ ∨ w.heap.size ≤ k_) ∧ some k_ ≠ (v232 : Value).ownBlock) (.slice A14 y225.length c14) y225) ∧ Aside0 (Kd.R (Kd.int .u8) 5 w' w.heap.size (fun k_ => (w.heap.size ≤ k_)) v232 t231) ∧ Aside0 (Below w.heap.size w w'))
                      case atStart => exact ⟨(0), (by first | rfl | (simp; done) | (simp [*]; done)), H', ⟨Nat.le_refl _⟩, ⟨by (with_reducible repeat (first | apply Kd.V_alloc | apply Kd.V_drewN | apply Kd.V_drew)); exact HO_0.out⟩, ⟨by (with_reducible repeat (first | apply Kd.V_alloc | apply Kd.V_drewN | apply Kd.V_drew)); exact HO229.out⟩, ⟨by (with_reducible repeat (first | apply Kd.R_alloc | apply Kd.R_drewN | apply Kd.R_drew)); exact Kd.R_mono HO233.out (fun _ hk => hk.1)⟩, ⟨by repeat (first | (with_reducible first | exact HB.out | apply below_alloc | apply pw_below_drewN | apply below_drew1) | exact HB.out)⟩⟩
                      case round =>
                        clear H'
                        try clear c1
                        try clear q1
                        try clear c2
                        try clear c2b0
                        try clear c2b1
                        try clear p2
                        try clear q2
                        try clear hx2
                        try clear qi2
                        try clear c3
                        try clear c3b0
                        try clear c3b1
                        try clear c4
                        try clear c4b0
                        try clear c4b1
                        try clear c5
                        try clear c5b0
                        try clear c5b1
                        try clear c6
                        try clear c6b0
                        try clear c6b1
                        try clear p6
                        try clear c8
                        try clear c8b0
                        try clear c9
                        try clear c10
                        try clear c10b0
                        try clear c10b1
                        try clear c11
                        try clear c11b0
                        try clear c11b1
                        try clear c14
                        try clear q14
                        try clear hx221_0
                        try clear hx222_0
                        try clear hx223_0
                        try clear hx224_0
                        try clear p2
                        try clear p221
                        try clear p222
                        try clear p223
                        try clear p224
                        try clear p6
                        try clear q14
                        try clear q2
                        try clear q221
                        try clear q222
                        try clear q223
                        try clear q224
                        obtain ⟨x8_2, rfl, HA, HK2, HO_0, HO_6, HO_7, HB⟩ := hrel
                        cases gk with
                        | zero => exact absurd HA.out (by simp [colloquyref08_Split.l0])
                        | succ k2 =>
                          have H := HA.out
                          clear HA
                          simp only [colloquyref08_Split.l0] at H
                          by_cases c16 : x8_2 < 4
                          · rw [if_pos c16] at H
                            have c16b0 : decide (x8_2 < 4) = true := decide_eq_true c16
                            clear c16
                            by_cases c17 : 0 ≤ x8_2
                            · rw [if_pos c17] at H
                              have c17b0 : decide (0 ≤ x8_2) = true := decide_eq_true c17
                              clear c17
                              by_cases c18 : x8_2 < (t231.length : Int)
                              · rw [if_pos c18] at H
                                have c18b0 : decide (x8_2 < (t231.length : Int)) = true := decide_eq_true c18
                                clear c18
                                obtain ⟨ji19, hji19⟩ : ∃ j_ : Int, (wrap64 (4 + x8_2)) = j_ := ⟨_, rfl⟩
                                replace H : (if 0 ≤ (ji19) then (if (ji19) < (l0.length : Int) then (if (rd t231 x8_2) = (rd l0 (ji19)) then (colloquyref08_Split.l0 k2 l0 (wrap64 ((wrap64 ((wrap64 ((wrap64 (rd l0 0)) + (wrap64 (256 * (wrap64 (rd l0 1)))))) + (wrap64 (65536 * (wrap64 (rd l0 2)))))) + (wrap64 (16777216 * (wrap64 (rd l0 3)))))) y225 t231 (wrap64 (x8_2 + 1))) else (some (([] : List Int), 0, false))) else (none)) else (none)) = some (r1, r2, r3) := by first | (rw [hji19] at H; exact H) | (simp only [hji19] at H ⊢; exact H)
                                have hji19w : (IntKind.i64.wrap (4 + x8_2)) = ji19 := (i64_w _).trans hji19
                                by_cases c20 : 0 ≤ (ji19)
                                · rw [if_pos c20] at H
                                  have c20b0 : decide (0 ≤ (ji19)) = true := decide_eq_true c20
                                  clear c20
                                  by_cases c21 : (ji19) < (l0.length : Int)
                                  · rw [if_pos c21] at H
                                    have c21b0 : decide ((ji19) < (l0.length : Int)) = true := decide_eq_true c21
                                    clear c21
                                    by_cases c22 : (rd t231 x8_2) = (rd l0 (ji19))
                                    · rw [if_pos c22] at H
                                      have c22b0 : ((rd t231 x8_2) == (rd l0 (ji19))) = true := beq_iff_eq.mpr c22
                                      have c22b1 : ((rd t231 x8_2) != (rd l0 (ji19))) = false := bne_eq_false_iff_eq.mpr c22
                                      clear c22
                                      have H' := Aside0.mk H
                                      clear H
                                      obtain ⟨Ao23, co23, eo23⟩ := Kd.R_slice HO_7.out
                                      subst eo23
                                      have p234 : 0 ≤ (x8_2 : Int) := of_decide_eq_true (by first | (with_reducible assumption) | assumption)
                                      have q234 : x8_2 < (t231.length : Int) := of_decide_eq_true (by first | (with_reducible assumption) | assumption)
                                      obtain ⟨ad234, e234, hx234_0⟩ := Kd.at_int (Kd.R_reads' HO_7.out).2.2 x8_2 p234 q234
                                      cases e234
                                      replace p234 := eq_true p234
                                      replace q234 := eq_true q234
                                      have p235 : 0 ≤ ((ji19) : Int) := of_decide_eq_true (by first | (with_reducible assumption) | assumption)
                                      have q235 : (ji19) < (l0.length : Int) := of_decide_eq_true (by first | (with_reducible assumption) | assumption)
                                      obtain ⟨ad235, e235, hx235_0⟩ := Kd.at_int (Kd.V_reads' HO_0.out).2.2 (ji19) p235 q235
                                      obtain rfl : ad221 = ad235 := (by injection e235)
                                      replace p235 := eq_true p235
                                      replace q235 := eq_true q235
                                      go_wp2
                                      repeat (go_quiet (fail); try go_wp2)
                                      go_roundg k2
                                      case measure => have := HJ6.out; have := HK2.out; omega
                                      case rel => exact ⟨(wrap64 (x8_2 + 1)), (by first | rfl | (simp; done) | (simp [*]; done)), H', ⟨by have := HJ6.out; have := HK2.out; omega⟩, ⟨by (with_reducible repeat (first | apply Kd.V_alloc | apply Kd.V_drewN | apply Kd.V_drew)); exact HO_0.out⟩, ⟨by (with_reducible repeat (first | apply Kd.V_alloc | apply Kd.V_drewN | apply Kd.V_drew)); exact HO_6.out⟩, ⟨by (with_reducible repeat (first | apply Kd.R_alloc | apply Kd.R_drewN | apply Kd.R_drew)); exact HO_7.out⟩, ⟨by repeat (first | (with_reducible first | exact HB.out | apply below_alloc | apply pw_below_drewN | apply below_drew1) | exact HB.out)⟩⟩
                                    · rw [if_neg c22] at H
                                      have c22b0 : ((rd t231 x8_2) == (rd l0 (ji19))) = false := beq_eq_false_iff_ne.mpr c22
                                      have c22b1 : ((rd t231 x8_2) != (rd l0 (ji19))) = true := bne_iff_ne.mpr c22
                                      simp only [Option.some.injEq, Prod.mk.injEq] at H
                                      obtain ⟨rfl, rfl, rfl⟩ := H
                                      obtain ⟨Ao24, co24, eo24⟩ := Kd.R_slice HO_7.out
                                      subst eo24
                                      have p234 : 0 ≤ (x8_2 : Int) := of_decide_eq_true (by first | (with_reducible assumption) | assumption)
                                      have q234 : x8_2 < (t231.length : Int) := of_decide_eq_true (by first | (with_reducible assumption) | assumption)
                                      obtain ⟨ad234, e234, hx234_0⟩ := Kd.at_int (Kd.R_reads' HO_7.out).2.2 x8_2 p234 q234
                                      cases e234
                                      replace p234 := eq_true p234
                                      replace q234 := eq_true q234
                                      have p235 : 0 ≤ ((ji19) : Int) := of_decide_eq_true (by first | (with_reducible assumption) | assumption)
                                      have q235 : (ji19) < (l0.length : Int) := of_decide_eq_true (by first | (with_reducible assumption) | assumption)
                                      obtain ⟨ad235, e235, hx235_0⟩ := Kd.at_int (Kd.V_reads' HO_0.out).2.2 (ji19) p235 q235
                                      obtain rfl : ad221 = ad235 := (by injection e235)
                                      replace p235 := eq_true p235
                                      replace q235 := eq_true q235
                                      go_wp2
                                      repeat (go_quiet (fail); try go_wp2)
                                      go_ret3
                                      exact ⟨_, by first | rfl | (simp [errW_none, errW_some] <;> rfl) | (simp only [← hji19]; first | rfl | (simp [errW_none, errW_some] <;> rfl)) | (simp [*, errW_none, errW_some] <;> rfl), (by first | exact Kd.V_nil _ _ _ _ _ | exact Kd.V_mono (Kd.R_V (by first | exact Kd.R_nil _ _ _ _ _ | exact Kd.N_nil _ _ _ _ _ | exact Kd.V_nil _ _ _ _ _ | exact Kd.Q_nil _ _ _ _ _ | exact Kd.S_nil _ _ _ _ _)) (fun k_ hk => by first | exact ⟨(.inr (hk.1)), hk.2⟩ | exact (.inr (hk)))), by repeat (first | (with_reducible first | exact HB.out | apply below_alloc | apply pw_below_drewN | apply below_drew1) | exact HB.out)⟩
                                  · rw [if_neg c21] at H
                                    exact absurd H (by simp)
                                · rw [if_neg c20] at H
                                  exact absurd H (by simp)
                              · rw [if_neg c18] at H
                                exact absurd H (by simp)
                            · rw [if_neg c17] at H
                              exact absurd H (by simp)
                          · rw [if_neg c16] at H
                            have c16b0 : decide (x8_2 < 4) = false := decide_eq_false c16
                            clear c16
                            simp only [Option.some.injEq, Prod.mk.injEq] at H
                            obtain ⟨rfl, rfl, rfl⟩ := H
                            go_wp2
                            repeat (go_quiet (fail); try go_wp2)
                            go_ret3
                            exact ⟨_, by first | rfl | (simp [errW_none, errW_some] <;> rfl) | (simp [*, errW_none, errW_some] <;> rfl), by (with_reducible repeat (first | apply Kd.V_alloc | apply Kd.V_drewN | apply Kd.V_drew)); exact Kd.V_mono HO_6.out (fun _ hk => hk.1), by repeat (first | (with_reducible first | exact HB.out | apply below_alloc | apply pw_below_drewN | apply below_drew1) | exact HB.out)⟩
                    · rw [if_neg c11] at H
                      exact absurd H (by simp)
                  · rw [if_neg c10] at H
                    exact absurd H (by simp)
          · rw [if_neg c6] at H
            exact absurd H (by simp)
        · rw [if_neg c5] at H
          exact absurd H (by simp)
      · rw [if_neg c4] at H
        exact absurd H (by simp)
    · rw [if_neg c3] at H
      exact absurd H (by simp)

end Go.Proofs.Ytmlemnfleicnfaa.PA
