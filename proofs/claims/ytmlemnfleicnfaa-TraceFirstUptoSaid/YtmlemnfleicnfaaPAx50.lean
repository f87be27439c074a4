/- A Go function of the translation as a plain Lean function, with the proof that the call answers just so. Printed by a program of this session; Lean checks it. -/
import Derived.Test.YtmlemnfleicnfaaPAx0
import Derived.Test.YtmlemnfleicnfaaPAx49
namespace Go.Proofs.Ytmlemnfleicnfaa.PA
open Go.RowKit Go.Proofs.YtmlemnfleicnfaaW.PrintWords Go.Proofs.YtmlemnfleicnfaaW.PrintLast Go.Proofs.YtmlemnfleicnfaaW.PrintMore
attribute [local go_sem] max2_int min2_int max_two min_two max_three min_three max_four min_four   -- for this text's walks alone
set_option linter.unusedVariables false
set_option linter.unusedSimpArgs false

/-! ### colloquyref18_Verdict: function 50 -/
mutual
def colloquyref18_Verdict.l0 : Nat → List (S70) → Bool → Int → Option (Int)
  | 0, _, _, _ => none
  | k + 1, x1, x2, x7 => if x7 < (x1.length : Int) then (if 0 ≤ x7 then ((colloquyref18_Decides.f ((rd_T70 x1 x7).f0) ((rd_T70 x1 x7).f1) ((rd_T70 x1 x7).f2) ((rd_T70 x1 x7).f3)).bind fun t335 => (if t335 = true then (if ((rd_T70 x1 x7).f0) = 12 then (if x2 = true then (some 3) else (some 1)) else (if ((rd_T70 x1 x7).f0) = 11 then (colloquyref18_Verdict.j1 k x2 (((rd_T70 x1 x7).f0) == 11)) else (colloquyref18_Verdict.j1 k x2 (((rd_T70 x1 x7).f0) == 13)))) else (colloquyref18_Verdict.l0 k x1 x2 (wrap64 (x7 + 1))))) else (none)) else (some 5)
def colloquyref18_Verdict.j1 : Nat → Bool → Bool → Option (Int)
  | 0, _, _ => none
  | k + 1, x2, x32 => if x32 = true then (if x2 = true then (some 4) else (some 2)) else (some 5)
end
def colloquyref18_Verdict.f (k : Nat) (a0 : Int) (l1 : List (S70)) (a2 : Bool) : Option (Int) := if a0 = 1 then (some 6) else (if a0 = 2 then (some 7) else (colloquyref18_Verdict.l0 k l1 a2 0))
theorem colloquyref18_Verdict.mono_l : ∀ k, (∀ y0 y1 y2, LeO (colloquyref18_Verdict.l0 k y0 y1 y2) (colloquyref18_Verdict.l0 (k + 1) y0 y1 y2)) ∧ (∀ y0 y1, LeO (colloquyref18_Verdict.j1 k y0 y1) (colloquyref18_Verdict.j1 (k + 1) y0 y1))
  | 0 => ⟨fun _ _ _ r h => by simp [colloquyref18_Verdict.l0] at h, fun _ _ r h => by simp [colloquyref18_Verdict.j1] at h⟩
  | k + 1 => by
    obtain ⟨ih0, ih1⟩ := colloquyref18_Verdict.mono_l k
    refine ⟨?_, ?_⟩
    · intro y0 y1 y2
      unfold colloquyref18_Verdict.l0
      repeat' first
      | (with_reducible exact ih0 _ _ _)
      | (with_reducible exact ih1 _ _)
      | (with_reducible exact LeO.refl _)
      | (with_reducible exact LeO.none _)
      | (with_reducible refine LeO.ite ?_ ?_)
      | (with_reducible refine LeO.bind ?_ (fun _ => ?_))
      | exact ih0 _ _ _
      | exact ih1 _ _
      | exact LeO.none _
      | refine LeO.ite ?_ ?_
      | refine LeO.bind ?_ (fun _ => ?_)
    · intro y0 y1
      unfold colloquyref18_Verdict.j1
      repeat' first
      | (with_reducible exact ih0 _ _ _)
      | (with_reducible exact ih1 _ _)
      | (with_reducible exact LeO.refl _)
      | (with_reducible exact LeO.none _)
      | (with_reducible refine LeO.ite ?_ ?_)
      | (with_reducible refine LeO.bind ?_ (fun _ => ?_))
      | exact ih0 _ _ _
      | exact ih1 _ _
      | exact LeO.none _
      | refine LeO.ite ?_ ?_
      | refine LeO.bind ?_ (fun _ => ?_)
theorem colloquyref18_Verdict.mono : ∀ a0 a1 a2 k, LeO (colloquyref18_Verdict.f k a0 a1 a2) (colloquyref18_Verdict.f (k + 1) a0 a1 a2) := by
  intro a0 a1 a2 k
  obtain ⟨ih0, ih1⟩ := colloquyref18_Verdict.mono_l k
  unfold colloquyref18_Verdict.f
  repeat' first
      | (with_reducible exact ih0 _ _ _)
      | (with_reducible exact ih1 _ _)
      | (with_reducible exact LeO.refl _)
      | (with_reducible exact LeO.none _)
      | (with_reducible refine LeO.ite ?_ ?_)
      | (with_reducible refine LeO.bind ?_ (fun _ => ?_))
      | exact ih0 _ _ _
      | exact ih1 _ _
      | exact LeO.none _
      | refine LeO.ite ?_ ?_
      | refine LeO.bind ?_ (fun _ => ?_)
set_option maxHeartbeats 8000000 in
set_option maxRecDepth 100000 in
theorem colloquyref18_Verdict.calls (k : Nat) (a0 : Int) (A1 : Option Addr) (c1 : Nat) (l1 : List (S70)) (a2 : Bool) (r : Int) (w : World) (hr1 : Kd.C k70 w A1 l1.length l1) (hc1 : l1.length ≤ c1) (h : colloquyref18_Verdict.f k a0 l1 a2 = some r) :
    Calls Try.prog 50 #[.int .i64 a0, .slice A1 l1.length c1, .bool a2] w fun e w' => e = .returned (.int .i64 r) ∧ Below w.heap.size w w' := by
  have hu70 := Try.underlying70
  have HR1 := Aside0.mk hr1
  have HC1 := Aside0.mk hc1
  clear hr1 hc1
  have HB := Aside0.mk (Below.refl w.heap.size w)
  have H : (if a0 = 1 then (some 6) else (if a0 = 2 then (some 7) else (colloquyref18_Verdict.l0 k l1 a2 0))) = some r := h
  clear h
  by_cases c4 : a0 = 1
  · rw [if_pos c4] at H
    have c4b0 : (a0 == 1) = true := beq_iff_eq.mpr c4
    have c4b1 : (a0 != 1) = false := bne_eq_false_iff_eq.mpr c4
    clear c4
    obtain rfl := Option.some.inj H
    go_enter Try.func50, Try.ntmps50
    go_wp2
    go_ret
    exact ⟨by first | rfl | (simp [errW_none, errW_some] <;> rfl) | (simp [*, errW_none, errW_some] <;> rfl), by repeat (first | (with_reducible first | exact HB.out | apply below_alloc | apply pw_below_drewN | apply below_drew1) | exact HB.out)⟩
  · rw [if_neg c4] at H
    have c4b0 : (a0 == 1) = false := beq_eq_false_iff_ne.mpr c4
    have c4b1 : (a0 != 1) = true := bne_iff_ne.mpr c4
    by_cases c5 : a0 = 2
    · rw [if_pos c5] at H
      have c5b0 : (a0 == 2) = true := beq_iff_eq.mpr c5
      have c5b1 : (a0 != 2) = false := bne_eq_false_iff_eq.mpr c5
      clear c5
      obtain rfl := Option.some.inj H
      go_enter Try.func50, Try.ntmps50
      go_wp2
      go_ret
      exact ⟨by first | rfl | (simp [errW_none, errW_some] <;> rfl) | (simp [*, errW_none, errW_some] <;> rfl), by repeat (first | (with_reducible first | exact HB.out | apply below_alloc | apply pw_below_drewN | apply below_drew1) | exact HB.out)⟩
    · rw [if_neg c5] at H
      have c5b0 : (a0 == 2) = false := beq_eq_false_iff_ne.mpr c5
      have c5b1 : (a0 != 2) = true := bne_iff_ne.mpr c5
      have H' := Aside0.mk H
      clear H
      go_enter Try.func50, Try.ntmps50
      go_wp2
      go_loopg [7] k (fun kq v7 w' => ∃ (x7_1 : Int), v7 = .int .i64 x7_1 ∧ Aside0 (colloquyref18_Verdict.l0 kq l1 a2 x7_1 = some r) ∧ Aside0 (kq ≤ k) ∧ Aside0 (Below w.heap.size w w'))
      case atStart => exact ⟨(0), (by first | rfl | (simp; done) | (simp [*]; done)), H', ⟨Nat.le_refl _⟩, ⟨by repeat (first | (with_reducible first | exact HB.out | apply below_alloc | apply pw_below_drewN | apply below_drew1) | exact HB.out)⟩⟩
      case round =>
        clear H'
        try clear c1
        try clear p2
        try clear c4
        try clear c4b0
        try clear c4b1
        try clear c5
        try clear c5b0
        try clear c5b1
        obtain ⟨x7_1, rfl, HA, HK1, HB⟩ := hrel
        cases gk with
        | zero => exact absurd HA.out (by simp [colloquyref18_Verdict.l0])
        | succ k1 =>
          have H := HA.out
          clear HA
          simp only [colloquyref18_Verdict.l0] at H
          by_cases c6 : x7_1 < (l1.length : Int)
          · rw [if_pos c6] at H
            have c6b0 : decide (x7_1 < (l1.length : Int)) = true := decide_eq_true c6
            clear c6
            by_cases c7 : 0 ≤ x7_1
            · rw [if_pos c7] at H
              have c7b0 : decide (0 ≤ x7_1) = true := decide_eq_true c7
              clear c7
              replace H := Option.bind_eq_some_iff.mp H
              obtain ⟨t335, A80, H⟩ := H
              replace H : (if t335 = true then (if ((rd_T70 l1 x7_1).f0) = 12 then (if a2 = true then (some 3) else (some 1)) else (if ((rd_T70 l1 x7_1).f0) = 11 then (colloquyref18_Verdict.j1 k1 a2 (((rd_T70 l1 x7_1).f0) == 11)) else (colloquyref18_Verdict.j1 k1 a2 (((rd_T70 l1 x7_1).f0) == 13)))) else (colloquyref18_Verdict.l0 k1 l1 a2 (wrap64 (x7_1 + 1)))) = some r := H
              have A8 := Aside0.mk A80
              clear A80
              by_cases c9 : t335 = true
              · subst c9
                have H1 : (if ((rd_T70 l1 x7_1).f0) = 12 then (if a2 = true then (some 3) else (some 1)) else (if ((rd_T70 l1 x7_1).f0) = 11 then (colloquyref18_Verdict.j1 k1 a2 (((rd_T70 l1 x7_1).f0) == 11)) else (colloquyref18_Verdict.j1 k1 a2 (((rd_T70 l1 x7_1).f0) == 13)))) = some r := by rw [if_pos rfl] at H; exact H
                clear H
                have H := H1
                clear H1
                by_cases c10 : ((rd_T70 l1 x7_1).f0) = 12
                · rw [if_pos c10] at H
                  have c10b0 : (((rd_T70 l1 x7_1).f0) == 12) = true := beq_iff_eq.mpr c10
                  have c10b1 : (((rd_T70 l1 x7_1).f0) != 12) = false := bne_eq_false_iff_eq.mpr c10
                  clear c10
                  by_cases c11 : a2 = true
                  · subst c11
                    have H1 : (some 3) = some r := by rw [if_pos rfl] at H; exact H
                    clear H
                    have H := H1
                    clear H1
                    obtain rfl := Option.some.inj H
                    have p334 : 0 ≤ (x7_1 : Int) := of_decide_eq_true (by first | (with_reducible assumption) | assumption)
                    have q334 : x7_1 < (l1.length : Int) := of_decide_eq_true (by first | (with_reducible assumption) | assumption)
                    obtain ⟨ad334, e334, hx334_0, hx334_1, hx334_2, hx334_3⟩ := at_T70 HR1.out x7_1 p334 q334
                    cases e334
                    replace hx334_0 := (HB.out.cell (World.block_lt_of_cell? w _ hx334_0)).trans hx334_0
                    replace hx334_1 := (HB.out.cell (World.block_lt_of_cell? w _ hx334_1)).trans hx334_1
                    replace hx334_2 := (HB.out.cell (World.block_lt_of_cell? w _ hx334_2)).trans hx334_2
                    replace hx334_3 := (HB.out.cell (World.block_lt_of_cell? w _ hx334_3)).trans hx334_3
                    replace p334 := eq_true p334
                    replace q334 := eq_true q334
                    go_wp2_with (first | ((with_reducible refine gate_callee (f := 52) rfl ?_); refine goesL_ (some 22) rfl rfl Try.func52 (by kernel_rfl) rfl #[.agg #[.int .i64 ((rd_T70 l1 x7_1).f0), .int .i64 ((rd_T70 l1 x7_1).f1), .string ((rd_T70 l1 x7_1).f2), .int .i64 ((rd_T70 l1 x7_1).f3)]] rfl (by (try simp only [List.map_toArray, List.map_cons, List.map_nil]); first | done | rfl | (simp only [List.length_drop, List.length_take]; rfl)) ?_; (with_reducible refine (colloquyref18_Decides.calls ((rd_T70 l1 x7_1).f0) ((rd_T70 l1 x7_1).f1) ((rd_T70 l1 x7_1).f2) ((rd_T70 l1 x7_1).f3) true _ A8.out).mono ?_); rintro e w12 ⟨rfl, hb⟩; refine ⟨_, rfl, ?_⟩; have n0_ := Aside0.mk (below_step (by repeat (first | (with_reducible first | exact HB.out | apply below_alloc | apply pw_below_drewN | apply below_drew1) | exact HB.out)) hb); clear HB; have HB := n0_; clear n0_; (try clear hb); (try clear hb2); (try clear hk); (try clear hi); have p336 : 0 ≤ (x7_1 : Int) := of_decide_eq_true (by first | (with_reducible assumption) | assumption); have q336 : x7_1 < (l1.length : Int) := of_decide_eq_true (by first | (with_reducible assumption) | assumption); obtain ⟨ad336, e336, hx336_0, hx336_1, hx336_2, hx336_3⟩ := at_T70 HR1.out x7_1 p336 q336; obtain rfl : ad334 = ad336 := (by injection e336); replace hx336_0 := (HB.out.cell (World.block_lt_of_cell? w _ hx336_0)).trans hx336_0; replace hx336_1 := (HB.out.cell (World.block_lt_of_cell? w _ hx336_1)).trans hx336_1; replace hx336_2 := (HB.out.cell (World.block_lt_of_cell? w _ hx336_2)).trans hx336_2; replace hx336_3 := (HB.out.cell (World.block_lt_of_cell? w _ hx336_3)).trans hx336_3; replace p336 := eq_true p336; replace q336 := eq_true q336))
                    go_ret
                    exact ⟨by first | rfl | (simp [errW_none, errW_some] <;> rfl) | (simp [*, errW_none, errW_some] <;> rfl), by repeat (first | (with_reducible first | exact HB.out | apply below_alloc | apply pw_below_drewN | apply below_drew1) | exact HB.out)⟩
                  · replace c11 := Bool.eq_false_iff.mpr c11
                    subst c11
                    have H1 : (some 1) = some r := by rw [if_neg (show ¬ (false = true) by decide)] at H; exact H
                    clear H
                    have H := H1
                    clear H1
                    obtain rfl := Option.some.inj H
                    have p334 : 0 ≤ (x7_1 : Int) := of_decide_eq_true (by first | (with_reducible assumption) | assumption)
                    have q334 : x7_1 < (l1.length : Int) := of_decide_eq_true (by first | (with_reducible assumption) | assumption)
                    obtain ⟨ad334, e334, hx334_0, hx334_1, hx334_2, hx334_3⟩ := at_T70 HR1.out x7_1 p334 q334
                    cases e334
                    replace hx334_0 := (HB.out.cell (World.block_lt_of_cell? w _ hx334_0)).trans hx334_0
                    replace hx334_1 := (HB.out.cell (World.block_lt_of_cell? w _ hx334_1)).trans hx334_1
                    replace hx334_2 := (HB.out.cell (World.block_lt_of_cell? w _ hx334_2)).trans hx334_2
                    replace hx334_3 := (HB.out.cell (World.block_lt_of_cell? w _ hx334_3)).trans hx334_3
                    replace p334 := eq_true p334
                    replace q334 := eq_true q334
                    go_wp2_with (first | ((with_reducible refine gate_callee (f := 52) rfl ?_); refine goesL_ (some 22) rfl rfl Try.func52 (by kernel_rfl) rfl #[.agg #[.int .i64 ((rd_T70 l1 x7_1).f0), .int .i64 ((rd_T70 l1 x7_1).f1), .string ((rd_T70 l1 x7_1).f2), .int .i64 ((rd_T70 l1 x7_1).f3)]] rfl (by (try simp only [List.map_toArray, List.map_cons, List.map_nil]); first | done | rfl | (simp only [List.length_drop, List.length_take]; rfl)) ?_; (with_reducible refine (colloquyref18_Decides.calls ((rd_T70 l1 x7_1).f0) ((rd_T70 l1 x7_1).f1) ((rd_T70 l1 x7_1).f2) ((rd_T70 l1 x7_1).f3) true _ A8.out).mono ?_); rintro e w13 ⟨rfl, hb⟩; refine ⟨_, rfl, ?_⟩; have n0_ := Aside0.mk (below_step (by repeat (first | (with_reducible first | exact HB.out | apply below_alloc | apply pw_below_drewN | apply below_drew1) | exact HB.out)) hb); clear HB; have HB := n0_; clear n0_; (try clear hb); (try clear hb2); (try clear hk); (try clear hi); have p336 : 0 ≤ (x7_1 : Int) := of_decide_eq_true (by first | (with_reducible assumption) | assumption); have q336 : x7_1 < (l1.length : Int) := of_decide_eq_true (by first | (with_reducible assumption) | assumption); obtain ⟨ad336, e336, hx336_0, hx336_1, hx336_2, hx336_3⟩ := at_T70 HR1.out x7_1 p336 q336; obtain rfl : ad334 = ad336 := (by injection e336); replace hx336_0 := (HB.out.cell (World.block_lt_of_cell? w _ hx336_0)).trans hx336_0; replace hx336_1 := (HB.out.cell (World.block_lt_of_cell? w _ hx336_1)).trans hx336_1; replace hx336_2 := (HB.out.cell (World.block_lt_of_cell? w _ hx336_2)).trans hx336_2; replace hx336_3 := (HB.out.cell (World.block_lt_of_cell? w _ hx336_3)).trans hx336_3; replace p336 := eq_true p336; replace q336 := eq_true q336))
                    go_ret
                    exact ⟨by first | rfl | (simp [errW_none, errW_some] <;> rfl) | (simp [*, errW_none, errW_some] <;> rfl), by repeat (first | (with_reducible first | exact HB.out | apply below_alloc | apply pw_below_drewN | apply below_drew1) | exact HB.out)⟩
                · rw [if_neg c10] at H
                  have c10b0 : (((rd_T70 l1 x7_1).f0) == 12) = false := beq_eq_false_iff_ne.mpr c10
                  have c10b1 : (((rd_T70 l1 x7_1).f0) != 12) = true := bne_iff_ne.mpr c10
                  have HC14 := Aside0.mk H
                  clear H
                  have p334 : 0 ≤ (x7_1 : Int) := of_decide_eq_true (by first | (with_reducible assumption) | assumption)
                  have q334 : x7_1 < (l1.length : Int) := of_decide_eq_true (by first | (with_reducible assumption) | assumption)
                  obtain ⟨ad334, e334, hx334_0, hx334_1, hx334_2, hx334_3⟩ := at_T70 HR1.out x7_1 p334 q334
                  cases e334
                  replace hx334_0 := (HB.out.cell (World.block_lt_of_cell? w _ hx334_0)).trans hx334_0
                  replace hx334_1 := (HB.out.cell (World.block_lt_of_cell? w _ hx334_1)).trans hx334_1
                  replace hx334_2 := (HB.out.cell (World.block_lt_of_cell? w _ hx334_2)).trans hx334_2
                  replace hx334_3 := (HB.out.cell (World.block_lt_of_cell? w _ hx334_3)).trans hx334_3
                  replace p334 := eq_true p334
                  replace q334 := eq_true q334
                  go_upto_if 32 with (first | ((with_reducible refine gate_callee (f := 52) rfl ?_); refine goesL_ (some 22) rfl rfl Try.func52 (by kernel_rfl) rfl #[.agg #[.int .i64 ((rd_T70 l1 x7_1).f0), .int .i64 ((rd_T70 l1 x7_1).f1), .string ((rd_T70 l1 x7_1).f2), .int .i64 ((rd_T70 l1 x7_1).f3)]] rfl (by (try simp only [List.map_toArray, List.map_cons, List.map_nil]); first | done | rfl | (simp only [List.length_drop, List.length_take]; rfl)) ?_; (with_reducible refine (colloquyref18_Decides.calls ((rd_T70 l1 x7_1).f0) ((rd_T70 l1 x7_1).f1) ((rd_T70 l1 x7_1).f2) ((rd_T70 l1 x7_1).f3) true _ A8.out).mono ?_); rintro e w15 ⟨rfl, hb⟩; refine ⟨_, rfl, ?_⟩; have n0_ := Aside0.mk (below_step (by repeat (first | (with_reducible first | exact HB.out | apply below_alloc | apply pw_below_drewN | apply below_drew1) | exact HB.out)) hb); clear HB; have HB := n0_; clear n0_; (try clear hb); (try clear hb2); (try clear hk); (try clear hi); have p336 : 0 ≤ (x7_1 : Int) := of_decide_eq_true (by first | (with_reducible assumption) | assumption); have q336 : x7_1 < (l1.length : Int) := of_decide_eq_true (by first | (with_reducible assumption) | assumption); obtain ⟨ad336, e336, hx336_0, hx336_1, hx336_2, hx336_3⟩ := at_T70 HR1.out x7_1 p336 q336; obtain rfl : ad334 = ad336 := (by injection e336); replace hx336_0 := (HB.out.cell (World.block_lt_of_cell? w _ hx336_0)).trans hx336_0; replace hx336_1 := (HB.out.cell (World.block_lt_of_cell? w _ hx336_1)).trans hx336_1; replace hx336_2 := (HB.out.cell (World.block_lt_of_cell? w _ hx336_2)).trans hx336_2; replace hx336_3 := (HB.out.cell (World.block_lt_of_cell? w _ hx336_3)).trans hx336_3; replace p336 := eq_true p336; replace q336 := eq_true q336))
                  (try simp only [Act.put, List.setIfInBounds_toArray, List.set_cons_zero, List.set_cons_succ])
                  go_cut [32] (fun v32 wc => ∃ (kq : Nat) (x32_13 : Bool), v32 = .bool x32_13 ∧ Aside0 (colloquyref18_Verdict.j1 kq a2 x32_13 = some r) ∧ Aside0 (kq ≤ k1) ∧ Aside0 (Below w.heap.size w wc))
                  case first =>
                    have H := HC14.out
                    clear HC14
                    by_cases c16 : ((rd_T70 l1 x7_1).f0) = 11
                    · rw [if_pos c16] at H
                      have c16b0 : (((rd_T70 l1 x7_1).f0) == 11) = true := beq_iff_eq.mpr c16
                      have c16b1 : (((rd_T70 l1 x7_1).f0) != 11) = false := bne_eq_false_iff_eq.mpr c16
                      clear c16
                      (first | rw [c16b0] | (simp only [i64_w, i32_w]; rw [c16b0]) | skip)
                      have H' := Aside0.mk H
                      clear H
                      go_wp2
                      go_meet
                      case rel => exact ⟨_, ((((rd_T70 l1 x7_1).f0) == 11)), (by first | rfl | (simp; done) | (simp [*]; done)), H', ⟨by have := HK1.out; first | omega | exact Nat.le_refl _⟩, ⟨by repeat (first | (with_reducible first | exact HB.out | apply below_alloc | apply pw_below_drewN | apply below_drew1) | exact HB.out)⟩⟩
                    · rw [if_neg c16] at H
                      have c16b0 : (((rd_T70 l1 x7_1).f0) == 11) = false := beq_eq_false_iff_ne.mpr c16
                      have c16b1 : (((rd_T70 l1 x7_1).f0) != 11) = true := bne_iff_ne.mpr c16
                      (first | rw [c16b0] | (simp only [i64_w, i32_w]; rw [c16b0]) | skip)
                      have H' := Aside0.mk H
                      clear H
                      go_wp2
                      go_meet
                      case rel => exact ⟨_, ((((rd_T70 l1 x7_1).f0) == 13)), (by first | rfl | (simp; done) | (simp [*]; done)), H', ⟨by have := HK1.out; first | omega | exact Nat.le_refl _⟩, ⟨by repeat (first | (with_reducible first | exact HB.out | apply below_alloc | apply pw_below_drewN | apply below_drew1) | exact HB.out)⟩⟩
                  case rest =>
                    clear HC14
                    try clear c1
                    try clear p2
                    try clear p3
                    try clear q3
                    try clear hx3
                    try clear c4
                    try clear c4b0
                    try clear c4b1
                    try clear c5
                    try clear c5b0
                    try clear c5b1
                    try clear c6
                    try clear c6b0
                    try clear p6
                    try clear c7
                    try clear c7b0
                    try clear c9
                    try clear c10
                    try clear c10b0
                    try clear c10b1
                    try clear c11
                    try clear c16
                    try clear c16b0
                    try clear c16b1
                    try clear hx334_0
                    try clear hx334_1
                    try clear hx334_2
                    try clear hx334_3
                    try clear hx336_0
                    try clear hx336_1
                    try clear hx336_2
                    try clear hx336_3
                    try clear p2
                    try clear p334
                    try clear p336
                    try clear q334
                    try clear q336
                    obtain ⟨kq, x32_13, rfl, HA, HJ13, HB⟩ := hcut
                    cases kq with
                    | zero => exact absurd HA.out (by simp [colloquyref18_Verdict.j1])
                    | succ kj13 =>
                      have H := HA.out
                      clear HA
                      simp only [colloquyref18_Verdict.j1] at H
                      by_cases c17 : x32_13 = true
                      · subst c17
                        have H1 : (if a2 = true then (some 4) else (some 2)) = some r := by rw [if_pos rfl] at H; exact H
                        clear H
                        have H := H1
                        clear H1
                        by_cases c18 : a2 = true
                        · subst c18
                          have H1 : (some 4) = some r := by rw [if_pos rfl] at H; exact H
                          clear H
                          have H := H1
                          clear H1
                          obtain rfl := Option.some.inj H
                          go_wp2
                          go_ret
                          exact ⟨by first | rfl | (simp [errW_none, errW_some] <;> rfl) | (simp [*, errW_none, errW_some] <;> rfl), by repeat (first | (with_reducible first | exact HB.out | apply below_alloc | apply pw_below_drewN | apply below_drew1) | exact HB.out)⟩
                        · replace c18 := Bool.eq_false_iff.mpr c18
                          subst c18
                          have H1 : (some 2) = some r := by rw [if_neg (show ¬ (false = true) by decide)] at H; exact H
                          clear H
                          have H := H1
                          clear H1
                          obtain rfl := Option.some.inj H
                          go_wp2
                          go_ret
                          exact ⟨by first | rfl | (simp [errW_none, errW_some] <;> rfl) | (simp [*, errW_none, errW_some] <;> rfl), by repeat (first | (with_reducible first | exact HB.out | apply below_alloc | apply pw_below_drewN | apply below_drew1) | exact HB.out)⟩
                      · replace c17 := Bool.eq_false_iff.mpr c17
                        subst c17
                        have H1 : (some 5) = some r := by rw [if_neg (show ¬ (false = true) by decide)] at H; exact H
                        clear H
                        have H := H1
                        clear H1
                        obtain rfl := Option.some.inj H
                        go_wp2
                        go_ret
                        exact ⟨by first | rfl | (simp [errW_none, errW_some] <;> rfl) | (simp [*, errW_none, errW_some] <;> rfl), by repeat (first | (with_reducible first | exact HB.out | apply below_alloc | apply pw_below_drewN | apply below_drew1) | exact HB.out)⟩
              · replace c9 := Bool.eq_false_iff.mpr c9
                subst c9
                have H1 : (colloquyref18_Verdict.l0 k1 l1 a2 (wrap64 (x7_1 + 1))) = some r := by rw [if_neg (show ¬ (false = true) by decide)] at H; exact H
                clear H
                have H := H1
                clear H1
                have H' := Aside0.mk H
                clear H
                have p334 : 0 ≤ (x7_1 : Int) := of_decide_eq_true (by first | (with_reducible assumption) | assumption)
                have q334 : x7_1 < (l1.length : Int) := of_decide_eq_true (by first | (with_reducible assumption) | assumption)
                obtain ⟨ad334, e334, hx334_0, hx334_1, hx334_2, hx334_3⟩ := at_T70 HR1.out x7_1 p334 q334
                cases e334
                replace hx334_0 := (HB.out.cell (World.block_lt_of_cell? w _ hx334_0)).trans hx334_0
                replace hx334_1 := (HB.out.cell (World.block_lt_of_cell? w _ hx334_1)).trans hx334_1
                replace hx334_2 := (HB.out.cell (World.block_lt_of_cell? w _ hx334_2)).trans hx334_2
                replace hx334_3 := (HB.out.cell (World.block_lt_of_cell? w _ hx334_3)).trans hx334_3
                replace p334 := eq_true p334
                replace q334 := eq_true q334
                go_wp2_with (first | ((with_reducible refine gate_callee (f := 52) rfl ?_); refine goesL_ (some 22) rfl rfl Try.func52 (by kernel_rfl) rfl #[.agg #[.int .i64 ((rd_T70 l1 x7_1).f0), .int .i64 ((rd_T70 l1 x7_1).f1), .string ((rd_T70 l1 x7_1).f2), .int .i64 ((rd_T70 l1 x7_1).f3)]] rfl (by (try simp only [List.map_toArray, List.map_cons, List.map_nil]); first | done | rfl | (simp only [List.length_drop, List.length_take]; rfl)) ?_; (with_reducible refine (colloquyref18_Decides.calls ((rd_T70 l1 x7_1).f0) ((rd_T70 l1 x7_1).f1) ((rd_T70 l1 x7_1).f2) ((rd_T70 l1 x7_1).f3) false _ A8.out).mono ?_); rintro e w19 ⟨rfl, hb⟩; refine ⟨_, rfl, ?_⟩; have n0_ := Aside0.mk (below_step (by repeat (first | (with_reducible first | exact HB.out | apply below_alloc | apply pw_below_drewN | apply below_drew1) | exact HB.out)) hb); clear HB; have HB := n0_; clear n0_; (try clear hb); (try clear hb2); (try clear hk); (try clear hi)))
                go_roundg k1
                case measure => have := HK1.out; omega
                case rel => exact ⟨(wrap64 (x7_1 + 1)), (by first | rfl | (simp; done) | (simp [*]; done)), H', ⟨by have := HK1.out; omega⟩, ⟨by repeat (first | (with_reducible first | exact HB.out | apply below_alloc | apply pw_below_drewN | apply below_drew1) | exact HB.out)⟩⟩
            · rw [if_neg c7] at H
              exact absurd H (by simp)
          · rw [if_neg c6] at H
            have c6b0 : decide (x7_1 < (l1.length : Int)) = false := decide_eq_false c6
            clear c6
            obtain rfl := Option.some.inj H
            go_wp2
            go_ret
            exact ⟨by first | rfl | (simp [errW_none, errW_some] <;> rfl) | (simp [*, errW_none, errW_some] <;> rfl), by repeat (first | (with_reducible first | exact HB.out | apply below_alloc | apply pw_below_drewN | apply below_drew1) | exact HB.out)⟩

end Go.Proofs.Ytmlemnfleicnfaa.PA
