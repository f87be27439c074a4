/- A Go function of the translation as a plain Lean function, with the proof that the call answers just so. Printed by a program of this session; Lean checks it. -/
import Derived.Test.YtmlemnfleicnfaaPAx0
namespace Go.Proofs.Ytmlemnfleicnfaa.PA
open Go.RowKit Go.Proofs.YtmlemnfleicnfaaW.PrintWords Go.Proofs.YtmlemnfleicnfaaW.PrintLast Go.Proofs.YtmlemnfleicnfaaW.PrintMore
attribute [local go_sem] max2_int min2_int max_two min_two max_three min_three max_four min_four   -- for this text's walks alone
set_option linter.unusedVariables false
set_option linter.unusedSimpArgs false

/-! ### trace_right: function 67 -/
mutual
def trace_right.j0 : Nat → Int → Int → Bool → Int → Bool → Int → Int → ByteArray → Int → Option (Bool)
  | 0, _, _, _, _, _, _, _, _, _ => none
  | k + 1, x3, x4, x5, x7, x8, x322000, x322001, x322002, x322003 => if x8 = true then (if x322000 ≥ 1 then (if x322000 ≤ 14 then (if x322001 ≥ x3 then (if x322001 ≤ x322001 then (if x5 = true then (some (decide (x322003 ≥ 0))) else (if x322002.toList = ([] : List UInt8) then (some (decide (x322003 ≥ 0))) else (some false))) else (some false)) else (some false)) else (some false)) else (some false)) else (if x7 = 3 then (trace_right.j1 k x3 x4 x5 x7 (x7 == 3) x322000 x322001 x322002 x322003) else (trace_right.j1 k x3 x4 x5 x7 (x7 == 4) x322000 x322001 x322002 x322003))
def trace_right.j1 : Nat → Int → Int → Bool → Int → Bool → Int → Int → ByteArray → Int → Option (Bool)
  | 0, _, _, _, _, _, _, _, _, _ => none
  | k + 1, x3, x4, x5, x7, x13, x322000, x322001, x322002, x322003 => if x13 = true then (if x322000 ≥ 1 then (if x322000 ≤ 14 then (if x322001 ≥ x3 then (if x322001 ≤ x322001 then (some (decide (x322003 ≥ 0))) else (some false)) else (some false)) else (some false)) else (some false)) else (if x7 = 5 then (trace_right.j2 k x3 x4 x5 x7 (x7 == 5) x322000 x322001 x322002 x322003) else (if x7 = 6 then (trace_right.j2 k x3 x4 x5 x7 (x7 == 6) x322000 x322001 x322002 x322003) else (trace_right.j2 k x3 x4 x5 x7 (x7 == 7) x322000 x322001 x322002 x322003)))
def trace_right.j2 : Nat → Int → Int → Bool → Int → Bool → Int → Int → ByteArray → Int → Option (Bool)
  | 0, _, _, _, _, _, _, _, _, _ => none
  | k + 1, x3, x4, x5, x7, x18, x322000, x322001, x322002, x322003 => if x18 = true then (if x322000 ≥ 1 then (if x322000 ≤ 14 then (if x322001 ≥ (-1) then (if x322001 ≤ x322001 then (if x5 = true then (some (decide (x322003 ≥ 0))) else (if x322002.toList = ([] : List UInt8) then (some (decide (x322003 ≥ 0))) else (some false))) else (some false)) else (some false)) else (some false)) else (some false)) else (if x7 = 2 then (if x322000 ≥ 1 then (if x322000 ≤ 14 then (if x322001 ≥ x3 then (if x322001 ≤ x4 then (some (decide (x322003 ≥ 0))) else (some false)) else (some false)) else (some false)) else (some false)) else (if x322000 ≥ 1 then (if x322000 ≤ 14 then (if x322001 ≥ x3 then (if x322001 ≤ x4 then (if x5 = true then (some (decide (x322003 ≥ 0))) else (if x322002.toList = ([] : List UInt8) then (some (decide (x322003 ≥ 0))) else (some false))) else (some false)) else (some false)) else (some false)) else (some false)))
end
def trace_right.f (k : Nat) (a0_0 : Int) (a0_1 : Int) (a0_2 : ByteArray) (a0_3 : Int) : Option (Bool) := if a0_0 = 1 then (trace_right.j0 k 0 0 false a0_0 (a0_0 == 1) a0_0 a0_1 a0_2 a0_3) else (trace_right.j0 k 0 0 false a0_0 (a0_0 == 14) a0_0 a0_1 a0_2 a0_3)
theorem trace_right.mono_l : ∀ k, (∀ y0 y1 y2 y3 y4 y5 y6 y7 y8, LeO (trace_right.j0 k y0 y1 y2 y3 y4 y5 y6 y7 y8) (trace_right.j0 (k + 1) y0 y1 y2 y3 y4 y5 y6 y7 y8)) ∧ (∀ y0 y1 y2 y3 y4 y5 y6 y7 y8, LeO (trace_right.j1 k y0 y1 y2 y3 y4 y5 y6 y7 y8) (trace_right.j1 (k + 1) y0 y1 y2 y3 y4 y5 y6 y7 y8)) ∧ (∀ y0 y1 y2 y3 y4 y5 y6 y7 y8, LeO (trace_right.j2 k y0 y1 y2 y3 y4 y5 y6 y7 y8) (trace_right.j2 (k + 1) y0 y1 y2 y3 y4 y5 y6 y7 y8))
  | 0 => ⟨fun _ _ _ _ _ _ _ _ _ r h => by simp [trace_right.j0] at h, fun _ _ _ _ _ _ _ _ _ r h => by simp [trace_right.j1] at h, fun _ _ _ _ _ _ _ _ _ r h => by simp [trace_right.j2] at h⟩
  | k + 1 => by
    obtain ⟨ih0, ih1, ih2⟩ := trace_right.mono_l k
    refine ⟨?_, ?_, ?_⟩
    · intro y0 y1 y2 y3 y4 y5 y6 y7 y8
      unfold trace_right.j0
      repeat' first
      | (with_reducible exact ih0 _ _ _ _ _ _ _ _ _)
      | (with_reducible exact ih1 _ _ _ _ _ _ _ _ _)
      | (with_reducible exact ih2 _ _ _ _ _ _ _ _ _)
      | (with_reducible exact LeO.refl _)
      | (with_reducible exact LeO.none _)
      | (with_reducible refine LeO.ite ?_ ?_)
      | (with_reducible refine LeO.bind ?_ (fun _ => ?_))
      | exact ih0 _ _ _ _ _ _ _ _ _
      | exact ih1 _ _ _ _ _ _ _ _ _
      | exact ih2 _ _ _ _ _ _ _ _ _
      | exact LeO.none _
      | refine LeO.ite ?_ ?_
      | refine LeO.bind ?_ (fun _ => ?_)
    · intro y0 y1 y2 y3 y4 y5 y6 y7 y8
      unfold trace_right.j1
      repeat' first
      | (with_reducible exact ih0 _ _ _ _ _ _ _ _ _)
      | (with_reducible exact ih1 _ _ _ _ _ _ _ _ _)
      | (with_reducible exact ih2 _ _ _ _ _ _ _ _ _)
      | (with_reducible exact LeO.refl _)
      | (with_reducible exact LeO.none _)
      | (with_reducible refine LeO.ite ?_ ?_)
      | (with_reducible refine LeO.bind ?_ (fun _ => ?_))
      | exact ih0 _ _ _ _ _ _ _ _ _
      | exact ih1 _ _ _ _ _ _ _ _ _
      | exact ih2 _ _ _ _ _ _ _ _ _
      | exact LeO.none _
      | refine LeO.ite ?_ ?_
      | refine LeO.bind ?_ (fun _ => ?_)
    · intro y0 y1 y2 y3 y4 y5 y6 y7 y8
      unfold trace_right.j2
      repeat' first
      | (with_reducible exact ih0 _ _ _ _ _ _ _ _ _)
      | (with_reducible exact ih1 _ _ _ _ _ _ _ _ _)
      | (with_reducible exact ih2 _ _ _ _ _ _ _ _ _)
      | (with_reducible exact LeO.refl _)
      | (with_reducible exact LeO.none _)
      | (with_reducible refine LeO.ite ?_ ?_)
      | (with_reducible refine LeO.bind ?_ (fun _ => ?_))
      | exact ih0 _ _ _ _ _ _ _ _ _
      | exact ih1 _ _ _ _ _ _ _ _ _
      | exact ih2 _ _ _ _ _ _ _ _ _
      | exact LeO.none _
      | refine LeO.ite ?_ ?_
      | refine LeO.bind ?_ (fun _ => ?_)
theorem trace_right.mono : ∀ a0 a1 a2 a3 k, LeO (trace_right.f k a0 a1 a2 a3) (trace_right.f (k + 1) a0 a1 a2 a3) := by
  intro a0 a1 a2 a3 k
  obtain ⟨ih0, ih1, ih2⟩ := trace_right.mono_l k
  unfold trace_right.f
  repeat' first
      | (with_reducible exact ih0 _ _ _ _ _ _ _ _ _)
      | (with_reducible exact ih1 _ _ _ _ _ _ _ _ _)
      | (with_reducible exact ih2 _ _ _ _ _ _ _ _ _)
      | (with_reducible exact LeO.refl _)
      | (with_reducible exact LeO.none _)
      | (with_reducible refine LeO.ite ?_ ?_)
      | (with_reducible refine LeO.bind ?_ (fun _ => ?_))
      | exact ih0 _ _ _ _ _ _ _ _ _
      | exact ih1 _ _ _ _ _ _ _ _ _
      | exact ih2 _ _ _ _ _ _ _ _ _
      | exact LeO.none _
      | refine LeO.ite ?_ ?_
      | refine LeO.bind ?_ (fun _ => ?_)
set_option maxHeartbeats 8000000 in
set_option maxRecDepth 100000 in
theorem trace_right.calls (k : Nat) (a0_0 : Int) (a0_1 : Int) (a0_2 : ByteArray) (a0_3 : Int) (r : Bool) (w : World) (h : trace_right.f k a0_0 a0_1 a0_2 a0_3 = some r) :
    Calls Try.prog 67 #[.agg #[.int .i64 a0_0, .int .i64 a0_1, .string a0_2, .int .i64 a0_3]] w fun e w' => e = .returned (.bool r) ∧ Below w.heap.size w w' := by
  have hu70 := Try.underlying70
  have HB := Aside0.mk (Below.refl w.heap.size w)
  have H : (if a0_0 = 1 then (trace_right.j0 k 0 0 false a0_0 (a0_0 == 1) a0_0 a0_1 a0_2 a0_3) else (trace_right.j0 k 0 0 false a0_0 (a0_0 == 14) a0_0 a0_1 a0_2 a0_3)) = some r := h
  clear h
  have HC2 := Aside0.mk H
  clear H
  go_enter Try.func67, Try.ntmps67
  go_upto_if 8 with (first | ((with_reducible refine gate_dst (N := 1) rfl ?_); refine box_event ?hg (N := 1) ?hd (cs := #[.int .i64 a0_0, .int .i64 a0_1, .string a0_2, .int .i64 a0_3]) (t := 70) ?hr ?_; (case hd => rfl); (case hg => rfl); (case hr => first | (go_simp; done) | (go_simp; rfl)); intro gb321 hg w3 hbox hb; have n0_ := Aside0.mk (below_step (by repeat (first | (with_reducible first | exact HB.out | apply below_alloc | apply pw_below_drewN | apply below_drew1) | exact HB.out)) hb); have n1_ := Aside0.mk (hbox); have n2_ := Aside0.mk ((by rw [hg]; exact (below_size (by repeat (first | (with_reducible first | exact HB.out | apply below_alloc | apply pw_below_drewN | apply below_drew1) | exact HB.out))) : w.heap.size ≤ gb321)); have n3_ := Aside0.mk ((by rw [hg]; exact (below_size (by repeat (first | (with_reducible first | exact HB.out | apply below_alloc | apply pw_below_drewN | apply below_drew1) | exact HB.out))) : w.heap.size ≤ gb321)); clear HB; have HB := n0_; have BK321 := n1_; have GW321 := n2_; have GE321 := n3_; clear n0_ n1_ n2_ n3_; clear hb hbox hg; have hcz4_0 : w3.cell? ⟨gb321, 0, none⟩ = some (.int .i64 a0_0) := (blk_cell BK321.out 0).trans rfl; have hcz4_1 : w3.cell? ⟨gb321, 1, none⟩ = some (.int .i64 a0_1) := (blk_cell BK321.out 1).trans rfl; have hcz4_2 : w3.cell? ⟨gb321, 2, none⟩ = some (.string a0_2) := (blk_cell BK321.out 2).trans rfl; have hcz4_3 : w3.cell? ⟨gb321, 3, none⟩ = some (.int .i64 a0_3) := (blk_cell BK321.out 3).trans rfl; have hfz4_0 := blk_frozen BK321.out 0; have hfz4_1 := blk_frozen BK321.out 1; have hfz4_2 := blk_frozen BK321.out 2; have hfz4_3 := blk_frozen BK321.out 3))
  repeat (go_quiet (first | ((with_reducible refine gate_dst (N := 1) rfl ?_); refine box_event ?hg (N := 1) ?hd (cs := #[.int .i64 a0_0, .int .i64 a0_1, .string a0_2, .int .i64 a0_3]) (t := 70) ?hr ?_; (case hd => rfl); (case hg => rfl); (case hr => first | (go_simp; done) | (go_simp; rfl)); intro gb321 hg w3 hbox hb; have n0_ := Aside0.mk (below_step (by repeat (first | (with_reducible first | exact HB.out | apply below_alloc | apply pw_below_drewN | apply below_drew1) | exact HB.out)) hb); have n1_ := Aside0.mk (hbox); have n2_ := Aside0.mk ((by rw [hg]; exact (below_size (by repeat (first | (with_reducible first | exact HB.out | apply below_alloc | apply pw_below_drewN | apply below_drew1) | exact HB.out))) : w.heap.size ≤ gb321)); have n3_ := Aside0.mk ((by rw [hg]; exact (below_size (by repeat (first | (with_reducible first | exact HB.out | apply below_alloc | apply pw_below_drewN | apply below_drew1) | exact HB.out))) : w.heap.size ≤ gb321)); clear HB; have HB := n0_; have BK321 := n1_; have GW321 := n2_; have GE321 := n3_; clear n0_ n1_ n2_ n3_; clear hb hbox hg; have hcz4_0 : w3.cell? ⟨gb321, 0, none⟩ = some (.int .i64 a0_0) := (blk_cell BK321.out 0).trans rfl; have hcz4_1 : w3.cell? ⟨gb321, 1, none⟩ = some (.int .i64 a0_1) := (blk_cell BK321.out 1).trans rfl; have hcz4_2 : w3.cell? ⟨gb321, 2, none⟩ = some (.string a0_2) := (blk_cell BK321.out 2).trans rfl; have hcz4_3 : w3.cell? ⟨gb321, 3, none⟩ = some (.int .i64 a0_3) := (blk_cell BK321.out 3).trans rfl; have hfz4_0 := blk_frozen BK321.out 0; have hfz4_1 := blk_frozen BK321.out 1; have hfz4_2 := blk_frozen BK321.out 2; have hfz4_3 := blk_frozen BK321.out 3)); go_upto_if 8 with (first | ((with_reducible refine gate_dst (N := 1) rfl ?_); refine box_event ?hg (N := 1) ?hd (cs := #[.int .i64 a0_0, .int .i64 a0_1, .string a0_2, .int .i64 a0_3]) (t := 70) ?hr ?_; (case hd => rfl); (case hg => rfl); (case hr => first | (go_simp; done) | (go_simp; rfl)); intro gb321 hg w3 hbox hb; have n0_ := Aside0.mk (below_step (by repeat (first | (with_reducible first | exact HB.out | apply below_alloc | apply pw_below_drewN | apply below_drew1) | exact HB.out)) hb); have n1_ := Aside0.mk (hbox); have n2_ := Aside0.mk ((by rw [hg]; exact (below_size (by repeat (first | (with_reducible first | exact HB.out | apply below_alloc | apply pw_below_drewN | apply below_drew1) | exact HB.out))) : w.heap.size ≤ gb321)); have n3_ := Aside0.mk ((by rw [hg]; exact (below_size (by repeat (first | (with_reducible first | exact HB.out | apply below_alloc | apply pw_below_drewN | apply below_drew1) | exact HB.out))) : w.heap.size ≤ gb321)); clear HB; have HB := n0_; have BK321 := n1_; have GW321 := n2_; have GE321 := n3_; clear n0_ n1_ n2_ n3_; clear hb hbox hg; have hcz4_0 : w3.cell? ⟨gb321, 0, none⟩ = some (.int .i64 a0_0) := (blk_cell BK321.out 0).trans rfl; have hcz4_1 : w3.cell? ⟨gb321, 1, none⟩ = some (.int .i64 a0_1) := (blk_cell BK321.out 1).trans rfl; have hcz4_2 : w3.cell? ⟨gb321, 2, none⟩ = some (.string a0_2) := (blk_cell BK321.out 2).trans rfl; have hcz4_3 : w3.cell? ⟨gb321, 3, none⟩ = some (.int .i64 a0_3) := (blk_cell BK321.out 3).trans rfl; have hfz4_0 := blk_frozen BK321.out 0; have hfz4_1 := blk_frozen BK321.out 1; have hfz4_2 := blk_frozen BK321.out 2; have hfz4_3 := blk_frozen BK321.out 3)))
  (try simp only [Act.put, List.setIfInBounds_toArray, List.set_cons_zero, List.set_cons_succ])
  go_cut [8] (fun v8 wc => ∃ (kq : Nat) (x8_1 : Bool), v8 = .bool x8_1 ∧ Aside0 (trace_right.j0 kq 0 0 false a0_0 x8_1 a0_0 a0_1 a0_2 a0_3 = some r) ∧ Aside0 (kq ≤ k) ∧ Aside0 (wc.heap[gb321]? = some (.cells #[.int .i64 a0_0, .int .i64 a0_1, .string a0_2, .int .i64 a0_3] 70 (0, 0))) ∧ Aside0 (Below w.heap.size w wc))
  case first =>
    have H := HC2.out
    clear HC2
    by_cases c5 : a0_0 = 1
    · rw [if_pos c5] at H
      have c5b0 : (a0_0 == 1) = true := beq_iff_eq.mpr c5
      have c5b1 : (a0_0 != 1) = false := bne_eq_false_iff_eq.mpr c5
      clear c5
      (first | rw [c5b0] | rw [c5b1] | (simp only [i64_w, i32_w]; rw [c5b0]) | skip)
      have H' := Aside0.mk H
      clear H
      go_wp2
      repeat (go_quiet (fail); try go_wp2)
      go_meet
      case rel => exact ⟨_, ((a0_0 == 1)), (by first | rfl | (simp; done) | (simp [*]; done)), H', ⟨by first | omega | exact Nat.le_refl _⟩, ⟨by (with_reducible repeat (first | refine blk_drewN ?_ _ | refine blk_drew ?_ | refine blk_alloc ?_ _)); exact BK321.out⟩, ⟨by repeat (first | (with_reducible first | exact HB.out | apply below_alloc | apply pw_below_drewN | apply below_drew1 | refine below_set ?_ GE321.out) | exact HB.out)⟩⟩
    · rw [if_neg c5] at H
      have c5b0 : (a0_0 == 1) = false := beq_eq_false_iff_ne.mpr c5
      have c5b1 : (a0_0 != 1) = true := bne_iff_ne.mpr c5
      (first | rw [c5b0] | rw [c5b1] | (simp only [i64_w, i32_w]; rw [c5b0]) | skip)
      have H' := Aside0.mk H
      clear H
      go_wp2
      repeat (go_quiet (fail); try go_wp2)
      go_meet
      case rel => exact ⟨_, ((a0_0 == 14)), (by first | rfl | (simp; done) | (simp [*]; done)), H', ⟨by first | omega | exact Nat.le_refl _⟩, ⟨by (with_reducible repeat (first | refine blk_drewN ?_ _ | refine blk_drew ?_ | refine blk_alloc ?_ _)); exact BK321.out⟩, ⟨by repeat (first | (with_reducible first | exact HB.out | apply below_alloc | apply pw_below_drewN | apply below_drew1 | refine below_set ?_ GE321.out) | exact HB.out)⟩⟩
  case rest =>
    clear HC2
    try clear p2
    try clear c5
    try clear c5b0
    try clear c5b1
    try clear hcz4_0
    try clear hcz4_1
    try clear hcz4_2
    try clear hcz4_3
    try clear hfz4_0
    try clear hfz4_1
    try clear hfz4_2
    try clear hfz4_3
    obtain ⟨kq, x8_1, rfl, HA, HJ1, BK321, HB⟩ := hcut
    cases kq with
    | zero => exact absurd HA.out (by simp [trace_right.j0])
    | succ kj1 =>
      have H := HA.out
      clear HA
      simp only [trace_right.j0] at H
      by_cases c6 : x8_1 = true
      · subst c6
        have H1 : (if a0_0 ≥ 1 then (if a0_0 ≤ 14 then (if a0_1 ≥ 0 then (if a0_1 ≤ a0_1 then (if false = true then (some (decide (a0_3 ≥ 0))) else (if a0_2.toList = ([] : List UInt8) then (some (decide (a0_3 ≥ 0))) else (some false))) else (some false)) else (some false)) else (some false)) else (some false)) = some r := by rw [if_pos rfl] at H; exact H
        clear H
        have H := H1
        clear H1
        by_cases c7 : a0_0 ≥ 1
        · rw [if_pos c7] at H
          have c7b0 : decide (1 ≤ a0_0) = true := decide_eq_true c7
          clear c7
          by_cases c8 : a0_0 ≤ 14
          · rw [if_pos c8] at H
            have c8b0 : decide (a0_0 ≤ 14) = true := decide_eq_true c8
            clear c8
            by_cases c9 : a0_1 ≥ 0
            · rw [if_pos c9] at H
              have c9b0 : decide (0 ≤ a0_1) = true := decide_eq_true c9
              clear c9
              rw [if_pos (by simp)] at H
              have H1 : (if a0_2.toList = ([] : List UInt8) then (some (decide (a0_3 ≥ 0))) else (some false)) = some r := by rw [if_neg (show ¬ (false = true) by decide)] at H; exact H
              clear H
              have H := H1
              clear H1
              by_cases c11 : a0_2.toList = ([] : List UInt8)
              · rw [if_pos c11] at H
                have c11b0 : (a0_2.toList == ([] : List UInt8)) = true := beq_iff_eq.mpr c11
                have c11b1 : (a0_2.toList != ([] : List UInt8)) = false := bne_eq_false_iff_eq.mpr c11
                clear c11
                obtain rfl := Option.some.inj H
                have hcz12_0 : wc.cell? ⟨gb321, 0, none⟩ = some (.int .i64 a0_0) := (blk_cell BK321.out 0).trans rfl
                have hcz12_1 : wc.cell? ⟨gb321, 1, none⟩ = some (.int .i64 a0_1) := (blk_cell BK321.out 1).trans rfl
                have hcz12_2 : wc.cell? ⟨gb321, 2, none⟩ = some (.string a0_2) := (blk_cell BK321.out 2).trans rfl
                have hcz12_3 : wc.cell? ⟨gb321, 3, none⟩ = some (.int .i64 a0_3) := (blk_cell BK321.out 3).trans rfl
                have hfz12_0 := blk_frozen BK321.out 0
                have hfz12_1 := blk_frozen BK321.out 1
                have hfz12_2 := blk_frozen BK321.out 2
                have hfz12_3 := blk_frozen BK321.out 3
                go_wp2
                repeat (go_quiet (fail); try go_wp2)
                go_ret
                exact ⟨by first | rfl | (simp [errW_none, errW_some] <;> rfl) | (simp [*, errW_none, errW_some] <;> rfl), by repeat (first | (with_reducible first | exact HB.out | apply below_alloc | apply pw_below_drewN | apply below_drew1 | refine below_set ?_ GE321.out) | exact HB.out)⟩
              · rw [if_neg c11] at H
                have c11b0 : (a0_2.toList == ([] : List UInt8)) = false := beq_eq_false_iff_ne.mpr c11
                have c11b1 : (a0_2.toList != ([] : List UInt8)) = true := bne_iff_ne.mpr c11
                obtain rfl := Option.some.inj H
                have hcz13_0 : wc.cell? ⟨gb321, 0, none⟩ = some (.int .i64 a0_0) := (blk_cell BK321.out 0).trans rfl
                have hcz13_1 : wc.cell? ⟨gb321, 1, none⟩ = some (.int .i64 a0_1) := (blk_cell BK321.out 1).trans rfl
                have hcz13_2 : wc.cell? ⟨gb321, 2, none⟩ = some (.string a0_2) := (blk_cell BK321.out 2).trans rfl
                have hcz13_3 : wc.cell? ⟨gb321, 3, none⟩ = some (.int .i64 a0_3) := (blk_cell BK321.out 3).trans rfl
                have hfz13_0 := blk_frozen BK321.out 0
                have hfz13_1 := blk_frozen BK321.out 1
                have hfz13_2 := blk_frozen BK321.out 2
                have hfz13_3 := blk_frozen BK321.out 3
                go_wp2
                repeat (go_quiet (fail); try go_wp2)
                go_ret
                exact ⟨by first | rfl | (simp [errW_none, errW_some] <;> rfl) | (simp [*, errW_none, errW_some] <;> rfl), by repeat (first | (with_reducible first | exact HB.out | apply below_alloc | apply pw_below_drewN | apply below_drew1 | refine below_set ?_ GE321.out) | exact HB.out)⟩
            · rw [if_neg c9] at H
              have c9b0 : decide (0 ≤ a0_1) = false := decide_eq_false c9
              clear c9
              obtain rfl := Option.some.inj H
              have hcz14_0 : wc.cell? ⟨gb321, 0, none⟩ = some (.int .i64 a0_0) := (blk_cell BK321.out 0).trans rfl
              have hcz14_1 : wc.cell? ⟨gb321, 1, none⟩ = some (.int .i64 a0_1) := (blk_cell BK321.out 1).trans rfl
              have hcz14_2 : wc.cell? ⟨gb321, 2, none⟩ = some (.string a0_2) := (blk_cell BK321.out 2).trans rfl
              have hcz14_3 : wc.cell? ⟨gb321, 3, none⟩ = some (.int .i64 a0_3) := (blk_cell BK321.out 3).trans rfl
              have hfz14_0 := blk_frozen BK321.out 0
              have hfz14_1 := blk_frozen BK321.out 1
              have hfz14_2 := blk_frozen BK321.out 2
              have hfz14_3 := blk_frozen BK321.out 3
              go_wp2
              repeat (go_quiet (fail); try go_wp2)
              go_ret
              exact ⟨by first | rfl | (simp [errW_none, errW_some] <;> rfl) | (simp [*, errW_none, errW_some] <;> rfl), by repeat (first | (with_reducible first | exact HB.out | apply below_alloc | apply pw_below_drewN | apply below_drew1 | refine below_set ?_ GE321.out) | exact HB.out)⟩
          · rw [if_neg c8] at H
            have c8b0 : decide (a0_0 ≤ 14) = false := decide_eq_false c8
            clear c8
            obtain rfl := Option.some.inj H
            have hcz15_0 : wc.cell? ⟨gb321, 0, none⟩ = some (.int .i64 a0_0) := (blk_cell BK321.out 0).trans rfl
            have hcz15_1 : wc.cell? ⟨gb321, 1, none⟩ = some (.int .i64 a0_1) := (blk_cell BK321.out 1).trans rfl
            have hcz15_2 : wc.cell? ⟨gb321, 2, none⟩ = some (.string a0_2) := (blk_cell BK321.out 2).trans rfl
            have hcz15_3 : wc.cell? ⟨gb321, 3, none⟩ = some (.int .i64 a0_3) := (blk_cell BK321.out 3).trans rfl
            have hfz15_0 := blk_frozen BK321.out 0
            have hfz15_1 := blk_frozen BK321.out 1
            have hfz15_2 := blk_frozen BK321.out 2
            have hfz15_3 := blk_frozen BK321.out 3
            go_wp2
            repeat (go_quiet (fail); try go_wp2)
            go_ret
            exact ⟨by first | rfl | (simp [errW_none, errW_some] <;> rfl) | (simp [*, errW_none, errW_some] <;> rfl), by repeat (first | (with_reducible first | exact HB.out | apply below_alloc | apply pw_below_drewN | apply below_drew1 | refine below_set ?_ GE321.out) | exact HB.out)⟩
        · rw [if_neg c7] at H
          have c7b0 : decide (1 ≤ a0_0) = false := decide_eq_false c7
          clear c7
          obtain rfl := Option.some.inj H
          have hcz16_0 : wc.cell? ⟨gb321, 0, none⟩ = some (.int .i64 a0_0) := (blk_cell BK321.out 0).trans rfl
          have hcz16_1 : wc.cell? ⟨gb321, 1, none⟩ = some (.int .i64 a0_1) := (blk_cell BK321.out 1).trans rfl
          have hcz16_2 : wc.cell? ⟨gb321, 2, none⟩ = some (.string a0_2) := (blk_cell BK321.out 2).trans rfl
          have hcz16_3 : wc.cell? ⟨gb321, 3, none⟩ = some (.int .i64 a0_3) := (blk_cell BK321.out 3).trans rfl
          have hfz16_0 := blk_frozen BK321.out 0
          have hfz16_1 := blk_frozen BK321.out 1
          have hfz16_2 := blk_frozen BK321.out 2
          have hfz16_3 := blk_frozen BK321.out 3
          go_wp2
          repeat (go_quiet (fail); try go_wp2)
          go_ret
          exact ⟨by first | rfl | (simp [errW_none, errW_some] <;> rfl) | (simp [*, errW_none, errW_some] <;> rfl), by repeat (first | (with_reducible first | exact HB.out | apply below_alloc | apply pw_below_drewN | apply below_drew1 | refine below_set ?_ GE321.out) | exact HB.out)⟩
      · replace c6 := Bool.eq_false_iff.mpr c6
        subst c6
        have H1 : (if a0_0 = 3 then (trace_right.j1 kj1 0 0 false a0_0 (a0_0 == 3) a0_0 a0_1 a0_2 a0_3) else (trace_right.j1 kj1 0 0 false a0_0 (a0_0 == 4) a0_0 a0_1 a0_2 a0_3)) = some r := by rw [if_neg (show ¬ (false = true) by decide)] at H; exact H
        clear H
        have H := H1
        clear H1
        have HC17 := Aside0.mk H
        clear H
        go_upto_if 13 with (fail)
        repeat (go_quiet (fail); go_upto_if 13 with (fail))
        go_cut [13] (fun v13 wc => ∃ (kq : Nat) (x13_16 : Bool), v13 = .bool x13_16 ∧ Aside0 (trace_right.j1 kq 0 0 false a0_0 x13_16 a0_0 a0_1 a0_2 a0_3 = some r) ∧ Aside0 (kq ≤ kj1) ∧ Aside0 (wc.heap[gb321]? = some (.cells #[.int .i64 a0_0, .int .i64 a0_1, .string a0_2, .int .i64 a0_3] 70 (0, 0))) ∧ Aside0 (Below w.heap.size w wc))
        case first =>
          have H := HC17.out
          clear HC17
          by_cases c18 : a0_0 = 3
          · rw [if_pos c18] at H
            have c18b0 : (a0_0 == 3) = true := beq_iff_eq.mpr c18
            have c18b1 : (a0_0 != 3) = false := bne_eq_false_iff_eq.mpr c18
            clear c18
            (first | rw [c18b0] | rw [c18b1] | (simp only [i64_w, i32_w]; rw [c18b0]) | skip)
            have H' := Aside0.mk H
            clear H
            go_wp2
            repeat (go_quiet (fail); try go_wp2)
            go_meet
            case rel => exact ⟨_, ((a0_0 == 3)), (by first | rfl | (simp; done) | (simp [*]; done)), H', ⟨by have := HJ1.out; first | omega | exact Nat.le_refl _⟩, ⟨by (with_reducible repeat (first | refine blk_drewN ?_ _ | refine blk_drew ?_ | refine blk_alloc ?_ _)); exact BK321.out⟩, ⟨by repeat (first | (with_reducible first | exact HB.out | apply below_alloc | apply pw_below_drewN | apply below_drew1 | refine below_set ?_ GE321.out) | exact HB.out)⟩⟩
          · rw [if_neg c18] at H
            have c18b0 : (a0_0 == 3) = false := beq_eq_false_iff_ne.mpr c18
            have c18b1 : (a0_0 != 3) = true := bne_iff_ne.mpr c18
            (first | rw [c18b0] | rw [c18b1] | (simp only [i64_w, i32_w]; rw [c18b0]) | skip)
            have H' := Aside0.mk H
            clear H
            go_wp2
            repeat (go_quiet (fail); try go_wp2)
            go_meet
            case rel => exact ⟨_, ((a0_0 == 4)), (by first | rfl | (simp; done) | (simp [*]; done)), H', ⟨by have := HJ1.out; first | omega | exact Nat.le_refl _⟩, ⟨by (with_reducible repeat (first | refine blk_drewN ?_ _ | refine blk_drew ?_ | refine blk_alloc ?_ _)); exact BK321.out⟩, ⟨by repeat (first | (with_reducible first | exact HB.out | apply below_alloc | apply pw_below_drewN | apply below_drew1 | refine below_set ?_ GE321.out) | exact HB.out)⟩⟩
        case rest =>
          clear HC17
          try clear c1
          try clear p2
          try clear c5
          try clear c5b0
          try clear c5b1
          try clear c6
          try clear c7
          try clear c7b0
          try clear c8
          try clear c8b0
          try clear c9
          try clear c9b0
          try clear c11
          try clear c11b0
          try clear c11b1
          try clear c18
          try clear c18b0
          try clear c18b1
          try clear hcz12_0
          try clear hcz12_1
          try clear hcz12_2
          try clear hcz12_3
          try clear hcz13_0
          try clear hcz13_1
          try clear hcz13_2
          try clear hcz13_3
          try clear hcz14_0
          try clear hcz14_1
          try clear hcz14_2
          try clear hcz14_3
          try clear hcz15_0
          try clear hcz15_1
          try clear hcz15_2
          try clear hcz15_3
          try clear hcz16_0
          try clear hcz16_1
          try clear hcz16_2
          try clear hcz16_3
          try clear hcz4_0
          try clear hcz4_1
          try clear hcz4_2
          try clear hcz4_3
          try clear hfz12_0
          try clear hfz12_1
          try clear hfz12_2
          try clear hfz12_3
          try clear hfz13_0
          try clear hfz13_1
          try clear hfz13_2
          try clear hfz13_3
          try clear hfz14_0
          try clear hfz14_1
          try clear hfz14_2
          try clear hfz14_3
          try clear hfz15_0
          try clear hfz15_1
          try clear hfz15_2
          try clear hfz15_3
          try clear hfz16_0
          try clear hfz16_1
          try clear hfz16_2
          try clear hfz16_3
          try clear hfz4_0
          try clear hfz4_1
          try clear hfz4_2
          try clear hfz4_3
          try clear p2
          obtain ⟨kq, x13_16, rfl, HA, HJ16, BK321, HB⟩ := hcut
          cases kq with
          | zero => exact absurd HA.out (by simp [trace_right.j1])
          | succ kj16 =>
            have H := HA.out
            clear HA
            simp only [trace_right.j1] at H
            by_cases c19 : x13_16 = true
            · subst c19
              have H1 : (if a0_0 ≥ 1 then (if a0_0 ≤ 14 then (if a0_1 ≥ 0 then (if a0_1 ≤ a0_1 then (some (decide (a0_3 ≥ 0))) else (some false)) else (some false)) else (some false)) else (some false)) = some r := by rw [if_pos rfl] at H; exact H
              clear H
              have H := H1
              clear H1
              by_cases c20 : a0_0 ≥ 1
              · rw [if_pos c20] at H
                have c20b0 : decide (1 ≤ a0_0) = true := decide_eq_true c20
                clear c20
                by_cases c21 : a0_0 ≤ 14
                · rw [if_pos c21] at H
                  have c21b0 : decide (a0_0 ≤ 14) = true := decide_eq_true c21
                  clear c21
                  by_cases c22 : a0_1 ≥ 0
                  · rw [if_pos c22] at H
                    have c22b0 : decide (0 ≤ a0_1) = true := decide_eq_true c22
                    clear c22
                    rw [if_pos (by simp)] at H
                    obtain rfl := Option.some.inj H
                    have hcz23_0 : wc.cell? ⟨gb321, 0, none⟩ = some (.int .i64 a0_0) := (blk_cell BK321.out 0).trans rfl
                    have hcz23_1 : wc.cell? ⟨gb321, 1, none⟩ = some (.int .i64 a0_1) := (blk_cell BK321.out 1).trans rfl
                    have hcz23_2 : wc.cell? ⟨gb321, 2, none⟩ = some (.string a0_2) := (blk_cell BK321.out 2).trans rfl
                    have hcz23_3 : wc.cell? ⟨gb321, 3, none⟩ = some (.int .i64 a0_3) := (blk_cell BK321.out 3).trans rfl
                    have hfz23_0 := blk_frozen BK321.out 0
                    have hfz23_1 := blk_frozen BK321.out 1
                    have hfz23_2 := blk_frozen BK321.out 2
                    have hfz23_3 := blk_frozen BK321.out 3
                    go_wp2
                    repeat (go_quiet (fail); try go_wp2)
                    go_ret
                    exact ⟨by first | rfl | (simp [errW_none, errW_some] <;> rfl) | (simp [*, errW_none, errW_some] <;> rfl), by repeat (first | (with_reducible first | exact HB.out | apply below_alloc | apply pw_below_drewN | apply below_drew1 | refine below_set ?_ GE321.out) | exact HB.out)⟩
                  · rw [if_neg c22] at H
                    have c22b0 : decide (0 ≤ a0_1) = false := decide_eq_false c22
                    clear c22
                    obtain rfl := Option.some.inj H
                    have hcz24_0 : wc.cell? ⟨gb321, 0, none⟩ = some (.int .i64 a0_0) := (blk_cell BK321.out 0).trans rfl
                    have hcz24_1 : wc.cell? ⟨gb321, 1, none⟩ = some (.int .i64 a0_1) := (blk_cell BK321.out 1).trans rfl
                    have hcz24_2 : wc.cell? ⟨gb321, 2, none⟩ = some (.string a0_2) := (blk_cell BK321.out 2).trans rfl
                    have hcz24_3 : wc.cell? ⟨gb321, 3, none⟩ = some (.int .i64 a0_3) := (blk_cell BK321.out 3).trans rfl
                    have hfz24_0 := blk_frozen BK321.out 0
                    have hfz24_1 := blk_frozen BK321.out 1
                    have hfz24_2 := blk_frozen BK321.out 2
                    have hfz24_3 := blk_frozen BK321.out 3
                    go_wp2
                    repeat (go_quiet (fail); try go_wp2)
                    go_ret
                    exact ⟨by first | rfl | (simp [errW_none, errW_some] <;> rfl) | (simp [*, errW_none, errW_some] <;> rfl), by repeat (first | (with_reducible first | exact HB.out | apply below_alloc | apply pw_below_drewN | apply below_drew1 | refine below_set ?_ GE321.out) | exact HB.out)⟩
                · rw [if_neg c21] at H
                  have c21b0 : decide (a0_0 ≤ 14) = false := decide_eq_false c21
                  clear c21
                  obtain rfl := Option.some.inj H
                  have hcz25_0 : wc.cell? ⟨gb321, 0, none⟩ = some (.int .i64 a0_0) := (blk_cell BK321.out 0).trans rfl
                  have hcz25_1 : wc.cell? ⟨gb321, 1, none⟩ = some (.int .i64 a0_1) := (blk_cell BK321.out 1).trans rfl
                  have hcz25_2 : wc.cell? ⟨gb321, 2, none⟩ = some (.string a0_2) := (blk_cell BK321.out 2).trans rfl
                  have hcz25_3 : wc.cell? ⟨gb321, 3, none⟩ = some (.int .i64 a0_3) := (blk_cell BK321.out 3).trans rfl
                  have hfz25_0 := blk_frozen BK321.out 0
                  have hfz25_1 := blk_frozen BK321.out 1
                  have hfz25_2 := blk_frozen BK321.out 2
                  have hfz25_3 := blk_frozen BK321.out 3
                  go_wp2
                  repeat (go_quiet (fail); try go_wp2)
                  go_ret
                  exact ⟨by first | rfl | (simp [errW_none, errW_some] <;> rfl) | (simp [*, errW_none, errW_some] <;> rfl), by repeat (first | (with_reducible first | exact HB.out | apply below_alloc | apply pw_below_drewN | apply below_drew1 | refine below_set ?_ GE321.out) | exact HB.out)⟩
              · rw [if_neg c20] at H
                have c20b0 : decide (1 ≤ a0_0) = false := decide_eq_false c20
                clear c20
                obtain rfl := Option.some.inj H
                have hcz26_0 : wc.cell? ⟨gb321, 0, none⟩ = some (.int .i64 a0_0) := (blk_cell BK321.out 0).trans rfl
                have hcz26_1 : wc.cell? ⟨gb321, 1, none⟩ = some (.int .i64 a0_1) := (blk_cell BK321.out 1).trans rfl
                have hcz26_2 : wc.cell? ⟨gb321, 2, none⟩ = some (.string a0_2) := (blk_cell BK321.out 2).trans rfl
                have hcz26_3 : wc.cell? ⟨gb321, 3, none⟩ = some (.int .i64 a0_3) := (blk_cell BK321.out 3).trans rfl
                have hfz26_0 := blk_frozen BK321.out 0
                have hfz26_1 := blk_frozen BK321.out 1
                have hfz26_2 := blk_frozen BK321.out 2
                have hfz26_3 := blk_frozen BK321.out 3
                go_wp2
                repeat (go_quiet (fail); try go_wp2)
                go_ret
                exact ⟨by first | rfl | (simp [errW_none, errW_some] <;> rfl) | (simp [*, errW_none, errW_some] <;> rfl), by repeat (first | (with_reducible first | exact HB.out | apply below_alloc | apply pw_below_drewN | apply below_drew1 | refine below_set ?_ GE321.out) | exact HB.out)⟩
            · replace c19 := Bool.eq_false_iff.mpr c19
              subst c19
              have H1 : (if a0_0 = 5 then (trace_right.j2 kj16 0 0 false a0_0 (a0_0 == 5) a0_0 a0_1 a0_2 a0_3) else (if a0_0 = 6 then (trace_right.j2 kj16 0 0 false a0_0 (a0_0 == 6) a0_0 a0_1 a0_2 a0_3) else (trace_right.j2 kj16 0 0 false a0_0 (a0_0 == 7) a0_0 a0_1 a0_2 a0_3))) = some r := by rw [if_neg (show ¬ (false = true) by decide)] at H; exact H
              clear H
              have H := H1
              clear H1
              have HC27 := Aside0.mk H
              clear H
              go_upto_if 18 with (fail)
              repeat (go_quiet (fail); go_upto_if 18 with (fail))
              go_cut [18] (fun v18 wc => ∃ (kq : Nat) (x18_26 : Bool), v18 = .bool x18_26 ∧ Aside0 (trace_right.j2 kq 0 0 false a0_0 x18_26 a0_0 a0_1 a0_2 a0_3 = some r) ∧ Aside0 (kq ≤ kj16) ∧ Aside0 (wc.heap[gb321]? = some (.cells #[.int .i64 a0_0, .int .i64 a0_1, .string a0_2, .int .i64 a0_3] 70 (0, 0))) ∧ Aside0 (Below w.heap.size w wc))
              case first =>
                have H := HC27.out
                clear HC27
                by_cases c28 : a0_0 = 5
                · rw [if_pos c28] at H
                  have c28b0 : (a0_0 == 5) = true := beq_iff_eq.mpr c28
                  have c28b1 : (a0_0 != 5) = false := bne_eq_false_iff_eq.mpr c28
                  clear c28
                  (first | rw [c28b0] | rw [c28b1] | (simp only [i64_w, i32_w]; rw [c28b0]) | skip)
                  have H' := Aside0.mk H
                  clear H
                  go_wp2
                  repeat (go_quiet (fail); try go_wp2)
                  go_meet
                  case rel => exact ⟨_, ((a0_0 == 5)), (by first | rfl | (simp; done) | (simp [*]; done)), H', ⟨by have := HJ1.out; have := HJ16.out; first | omega | exact Nat.le_refl _⟩, ⟨by (with_reducible repeat (first | refine blk_drewN ?_ _ | refine blk_drew ?_ | refine blk_alloc ?_ _)); exact BK321.out⟩, ⟨by repeat (first | (with_reducible first | exact HB.out | apply below_alloc | apply pw_below_drewN | apply below_drew1 | refine below_set ?_ GE321.out) | exact HB.out)⟩⟩
                · rw [if_neg c28] at H
                  have c28b0 : (a0_0 == 5) = false := beq_eq_false_iff_ne.mpr c28
                  have c28b1 : (a0_0 != 5) = true := bne_iff_ne.mpr c28
                  (first | rw [c28b0] | rw [c28b1] | (simp only [i64_w, i32_w]; rw [c28b0]) | skip)
                  by_cases c29 : a0_0 = 6
                  · rw [if_pos c29] at H
                    have c29b0 : (a0_0 == 6) = true := beq_iff_eq.mpr c29
                    have c29b1 : (a0_0 != 6) = false := bne_eq_false_iff_eq.mpr c29
                    clear c29
                    have H' := Aside0.mk H
                    clear H
                    go_wp2
                    repeat (go_quiet (fail); try go_wp2)
                    go_meet
                    case rel => exact ⟨_, ((a0_0 == 6)), (by first | rfl | (simp; done) | (simp [*]; done)), H', ⟨by have := HJ1.out; have := HJ16.out; first | omega | exact Nat.le_refl _⟩, ⟨by (with_reducible repeat (first | refine blk_drewN ?_ _ | refine blk_drew ?_ | refine blk_alloc ?_ _)); exact BK321.out⟩, ⟨by repeat (first | (with_reducible first | exact HB.out | apply below_alloc | apply pw_below_drewN | apply below_drew1 | refine below_set ?_ GE321.out) | exact HB.out)⟩⟩
                  · rw [if_neg c29] at H
                    have c29b0 : (a0_0 == 6) = false := beq_eq_false_iff_ne.mpr c29
                    have c29b1 : (a0_0 != 6) = true := bne_iff_ne.mpr c29
                    have H' := Aside0.mk H
                    clear H
                    go_wp2
                    repeat (go_quiet (fail); try go_wp2)
                    go_meet
                    case rel => exact ⟨_, ((a0_0 == 7)), (by first | rfl | (simp; done) | (simp [*]; done)), H', ⟨by have := HJ1.out; have := HJ16.out; first | omega | exact Nat.le_refl _⟩, ⟨by (with_reducible repeat (first | refine blk_drewN ?_ _ | refine blk_drew ?_ | refine blk_alloc ?_ _)); exact BK321.out⟩, ⟨by repeat (first | (with_reducible first | exact HB.out | apply below_alloc | apply pw_below_drewN | apply below_drew1 | refine below_set ?_ GE321.out) | exact HB.out)⟩⟩
              case rest =>
                clear HC27
                try clear c1
                try clear c2
                try clear p2
                try clear c5
                try clear c5b0
                try clear c5b1
                try clear c6
                try clear c7
                try clear c7b0
                try clear c8
                try clear c8b0
                try clear c9
                try clear c9b0
                try clear c11
                try clear c11b0
                try clear c11b1
                try clear c18
                try clear c18b0
                try clear c18b1
                try clear c19
                try clear c20
                try clear c20b0
                try clear c21
                try clear c21b0
                try clear c22
                try clear c22b0
                try clear c28
                try clear c28b0
                try clear c28b1
                try clear c29
                try clear c29b0
                try clear c29b1
                try clear hcz12_0
                try clear hcz12_1
                try clear hcz12_2
                try clear hcz12_3
                try clear hcz13_0
                try clear hcz13_1
                try clear hcz13_2
                try clear hcz13_3
                try clear hcz14_0
                try clear hcz14_1
                try clear hcz14_2
                try clear hcz14_3
                try clear hcz15_0
                try clear hcz15_1
                try clear hcz15_2
                try clear hcz15_3
                try clear hcz16_0
                try clear hcz16_1
                try clear hcz16_2
                try clear hcz16_3
                try clear hcz23_0
                try clear hcz23_1
                try clear hcz23_2
                try clear hcz23_3
                try clear hcz24_0
                try clear hcz24_1
                try clear hcz24_2
                try clear hcz24_3
                try clear hcz25_0
                try clear hcz25_1
                try clear hcz25_2
                try clear hcz25_3
                try clear hcz26_0
                try clear hcz26_1
                try clear hcz26_2
                try clear hcz26_3
                try clear hcz4_0
                try clear hcz4_1
                try clear hcz4_2
                try clear hcz4_3
                try clear hfz12_0
                try clear hfz12_1
                try clear hfz12_2
                try clear hfz12_3
                try clear hfz13_0
                try clear hfz13_1
                try clear hfz13_2
                try clear hfz13_3
                try clear hfz14_0
                try clear hfz14_1
                try clear hfz14_2
                try clear hfz14_3
                try clear hfz15_0
                try clear hfz15_1
                try clear hfz15_2
                try clear hfz15_3
                try clear hfz16_0
                try clear hfz16_1
                try clear hfz16_2
                try clear hfz16_3
                try clear hfz23_0
                try clear hfz23_1
                try clear hfz23_2
                try clear hfz23_3
                try clear hfz24_0
                try clear hfz24_1
                try clear hfz24_2
                try clear hfz24_3
                try clear hfz25_0
                try clear hfz25_1
                try clear hfz25_2
                try clear hfz25_3
                try clear hfz26_0
                try clear hfz26_1
                try clear hfz26_2
                try clear hfz26_3
                try clear hfz4_0
                try clear hfz4_1
                try clear hfz4_2
                try clear hfz4_3
                try clear p2
                obtain ⟨kq, x18_26, rfl, HA, HJ26, BK321, HB⟩ := hcut
                cases kq with
                | zero => exact absurd HA.out (by simp [trace_right.j2])
                | succ kj26 =>
                  have H := HA.out
                  clear HA
                  simp only [trace_right.j2] at H
                  by_cases c30 : x18_26 = true
                  · subst c30
                    have H1 : (if a0_0 ≥ 1 then (if a0_0 ≤ 14 then (if a0_1 ≥ (-1) then (if a0_1 ≤ a0_1 then (if false = true then (some (decide (a0_3 ≥ 0))) else (if a0_2.toList = ([] : List UInt8) then (some (decide (a0_3 ≥ 0))) else (some false))) else (some false)) else (some false)) else (some false)) else (some false)) = some r := by rw [if_pos rfl] at H; exact H
                    clear H
                    have H := H1
                    clear H1
                    by_cases c31 : a0_0 ≥ 1
                    · rw [if_pos c31] at H
                      have c31b0 : decide (1 ≤ a0_0) = true := decide_eq_true c31
                      clear c31
                      by_cases c32 : a0_0 ≤ 14
                      · rw [if_pos c32] at H
                        have c32b0 : decide (a0_0 ≤ 14) = true := decide_eq_true c32
                        clear c32
                        by_cases c33 : a0_1 ≥ (-1)
                        · rw [if_pos c33] at H
                          have c33b0 : decide ((-1) ≤ a0_1) = true := decide_eq_true c33
                          clear c33
                          rw [if_pos (by simp)] at H
                          have H1 : (if a0_2.toList = ([] : List UInt8) then (some (decide (a0_3 ≥ 0))) else (some false)) = some r := by rw [if_neg (show ¬ (false = true) by decide)] at H; exact H
                          clear H
                          have H := H1
                          clear H1
                          by_cases c35 : a0_2.toList = ([] : List UInt8)
                          · rw [if_pos c35] at H
                            have c35b0 : (a0_2.toList == ([] : List UInt8)) = true := beq_iff_eq.mpr c35
                            have c35b1 : (a0_2.toList != ([] : List UInt8)) = false := bne_eq_false_iff_eq.mpr c35
                            clear c35
                            obtain rfl := Option.some.inj H
                            have hcz36_0 : wc.cell? ⟨gb321, 0, none⟩ = some (.int .i64 a0_0) := (blk_cell BK321.out 0).trans rfl
                            have hcz36_1 : wc.cell? ⟨gb321, 1, none⟩ = some (.int .i64 a0_1) := (blk_cell BK321.out 1).trans rfl
                            have hcz36_2 : wc.cell? ⟨gb321, 2, none⟩ = some (.string a0_2) := (blk_cell BK321.out 2).trans rfl
                            have hcz36_3 : wc.cell? ⟨gb321, 3, none⟩ = some (.int .i64 a0_3) := (blk_cell BK321.out 3).trans rfl
                            have hfz36_0 := blk_frozen BK321.out 0
                            have hfz36_1 := blk_frozen BK321.out 1
                            have hfz36_2 := blk_frozen BK321.out 2
                            have hfz36_3 := blk_frozen BK321.out 3
                            go_wp2
                            repeat (go_quiet (fail); try go_wp2)
                            go_ret
                            exact ⟨by first | rfl | (simp [errW_none, errW_some] <;> rfl) | (simp [*, errW_none, errW_some] <;> rfl), by repeat (first | (with_reducible first | exact HB.out | apply below_alloc | apply pw_below_drewN | apply below_drew1 | refine below_set ?_ GE321.out) | exact HB.out)⟩
                          · rw [if_neg c35] at H
                            have c35b0 : (a0_2.toList == ([] : List UInt8)) = false := beq_eq_false_iff_ne.mpr c35
                            have c35b1 : (a0_2.toList != ([] : List UInt8)) = true := bne_iff_ne.mpr c35
                            obtain rfl := Option.some.inj H
                            have hcz37_0 : wc.cell? ⟨gb321, 0, none⟩ = some (.int .i64 a0_0) := (blk_cell BK321.out 0).trans rfl
                            have hcz37_1 : wc.cell? ⟨gb321, 1, none⟩ = some (.int .i64 a0_1) := (blk_cell BK321.out 1).trans rfl
                            have hcz37_2 : wc.cell? ⟨gb321, 2, none⟩ = some (.string a0_2) := (blk_cell BK321.out 2).trans rfl
                            have hcz37_3 : wc.cell? ⟨gb321, 3, none⟩ = some (.int .i64 a0_3) := (blk_cell BK321.out 3).trans rfl
                            have hfz37_0 := blk_frozen BK321.out 0
                            have hfz37_1 := blk_frozen BK321.out 1
                            have hfz37_2 := blk_frozen BK321.out 2
                            have hfz37_3 := blk_frozen BK321.out 3
                            go_wp2
                            repeat (go_quiet (fail); try go_wp2)
                            go_ret
                            exact ⟨by first | rfl | (simp [errW_none, errW_some] <;> rfl) | (simp [*, errW_none, errW_some] <;> rfl), by repeat (first | (with_reducible first | exact HB.out | apply below_alloc | apply pw_below_drewN | apply below_drew1 | refine below_set ?_ GE321.out) | exact HB.out)⟩
                        · rw [if_neg c33] at H
                          have c33b0 : decide ((-1) ≤ a0_1) = false := decide_eq_false c33
                          clear c33
                          obtain rfl := Option.some.inj H
                          have hcz38_0 : wc.cell? ⟨gb321, 0, none⟩ = some (.int .i64 a0_0) := (blk_cell BK321.out 0).trans rfl
                          have hcz38_1 : wc.cell? ⟨gb321, 1, none⟩ = some (.int .i64 a0_1) := (blk_cell BK321.out 1).trans rfl
                          have hcz38_2 : wc.cell? ⟨gb321, 2, none⟩ = some (.string a0_2) := (blk_cell BK321.out 2).trans rfl
                          have hcz38_3 : wc.cell? ⟨gb321, 3, none⟩ = some (.int .i64 a0_3) := (blk_cell BK321.out 3).trans rfl
                          have hfz38_0 := blk_frozen BK321.out 0
                          have hfz38_1 := blk_frozen BK321.out 1
                          have hfz38_2 := blk_frozen BK321.out 2
                          have hfz38_3 := blk_frozen BK321.out 3
                          go_wp2
                          repeat (go_quiet (fail); try go_wp2)
                          go_ret
                          exact ⟨by first | rfl | (simp [errW_none, errW_some] <;> rfl) | (simp [*, errW_none, errW_some] <;> rfl), by repeat (first | (with_reducible first | exact HB.out | apply below_alloc | apply pw_below_drewN | apply below_drew1 | refine below_set ?_ GE321.out) | exact HB.out)⟩
                      · rw [if_neg c32] at H
                        have c32b0 : decide (a0_0 ≤ 14) = false := decide_eq_false c32
                        clear c32
                        obtain rfl := Option.some.inj H
                        have hcz39_0 : wc.cell? ⟨gb321, 0, none⟩ = some (.int .i64 a0_0) := (blk_cell BK321.out 0).trans rfl
                        have hcz39_1 : wc.cell? ⟨gb321, 1, none⟩ = some (.int .i64 a0_1) := (blk_cell BK321.out 1).trans rfl
                        have hcz39_2 : wc.cell? ⟨gb321, 2, none⟩ = some (.string a0_2) := (blk_cell BK321.out 2).trans rfl
                        have hcz39_3 : wc.cell? ⟨gb321, 3, none⟩ = some (.int .i64 a0_3) := (blk_cell BK321.out 3).trans rfl
                        have hfz39_0 := blk_frozen BK321.out 0
                        have hfz39_1 := blk_frozen BK321.out 1
                        have hfz39_2 := blk_frozen BK321.out 2
                        have hfz39_3 := blk_frozen BK321.out 3
                        go_wp2
                        repeat (go_quiet (fail); try go_wp2)
                        go_ret
                        exact ⟨by first | rfl | (simp [errW_none, errW_some] <;> rfl) | (simp [*, errW_none, errW_some] <;> rfl), by repeat (first | (with_reducible first | exact HB.out | apply below_alloc | apply pw_below_drewN | apply below_drew1 | refine below_set ?_ GE321.out) | exact HB.out)⟩
                    · rw [if_neg c31] at H
                      have c31b0 : decide (1 ≤ a0_0) = false := decide_eq_false c31
                      clear c31
                      obtain rfl := Option.some.inj H
                      have hcz40_0 : wc.cell? ⟨gb321, 0, none⟩ = some (.int .i64 a0_0) := (blk_cell BK321.out 0).trans rfl
                      have hcz40_1 : wc.cell? ⟨gb321, 1, none⟩ = some (.int .i64 a0_1) := (blk_cell BK321.out 1).trans rfl
                      have hcz40_2 : wc.cell? ⟨gb321, 2, none⟩ = some (.string a0_2) := (blk_cell BK321.out 2).trans rfl
                      have hcz40_3 : wc.cell? ⟨gb321, 3, none⟩ = some (.int .i64 a0_3) := (blk_cell BK321.out 3).trans rfl
                      have hfz40_0 := blk_frozen BK321.out 0
                      have hfz40_1 := blk_frozen BK321.out 1
                      have hfz40_2 := blk_frozen BK321.out 2
                      have hfz40_3 := blk_frozen BK321.out 3
                      go_wp2
                      repeat (go_quiet (fail); try go_wp2)
                      go_ret
                      exact ⟨by first | rfl | (simp [errW_none, errW_some] <;> rfl) | (simp [*, errW_none, errW_some] <;> rfl), by repeat (first | (with_reducible first | exact HB.out | apply below_alloc | apply pw_below_drewN | apply below_drew1 | refine below_set ?_ GE321.out) | exact HB.out)⟩
                  · replace c30 := Bool.eq_false_iff.mpr c30
                    subst c30
                    have H1 : (if a0_0 = 2 then (if a0_0 ≥ 1 then (if a0_0 ≤ 14 then (if a0_1 ≥ 0 then (if a0_1 ≤ 0 then (some (decide (a0_3 ≥ 0))) else (some false)) else (some false)) else (some false)) else (some false)) else (if a0_0 ≥ 1 then (if a0_0 ≤ 14 then (if a0_1 ≥ 0 then (if a0_1 ≤ 0 then (if false = true then (some (decide (a0_3 ≥ 0))) else (if a0_2.toList = ([] : List UInt8) then (some (decide (a0_3 ≥ 0))) else (some false))) else (some false)) else (some false)) else (some false)) else (some false))) = some r := by rw [if_neg (show ¬ (false = true) by decide)] at H; exact H
                    clear H
                    have H := H1
                    clear H1
                    by_cases c41 : a0_0 = 2
                    · rw [if_pos c41] at H
                      have c41b0 : (a0_0 == 2) = true := beq_iff_eq.mpr c41
                      have c41b1 : (a0_0 != 2) = false := bne_eq_false_iff_eq.mpr c41
                      clear c41
                      by_cases c42 : a0_0 ≥ 1
                      · rw [if_pos c42] at H
                        have c42b0 : decide (1 ≤ a0_0) = true := decide_eq_true c42
                        clear c42
                        by_cases c43 : a0_0 ≤ 14
                        · rw [if_pos c43] at H
                          have c43b0 : decide (a0_0 ≤ 14) = true := decide_eq_true c43
                          clear c43
                          by_cases c44 : a0_1 ≥ 0
                          · rw [if_pos c44] at H
                            have c44b0 : decide (0 ≤ a0_1) = true := decide_eq_true c44
                            clear c44
                            by_cases c45 : a0_1 ≤ 0
                            · rw [if_pos c45] at H
                              have c45b0 : decide (a0_1 ≤ 0) = true := decide_eq_true c45
                              clear c45
                              obtain rfl := Option.some.inj H
                              have hcz46_0 : wc.cell? ⟨gb321, 0, none⟩ = some (.int .i64 a0_0) := (blk_cell BK321.out 0).trans rfl
                              have hcz46_1 : wc.cell? ⟨gb321, 1, none⟩ = some (.int .i64 a0_1) := (blk_cell BK321.out 1).trans rfl
                              have hcz46_2 : wc.cell? ⟨gb321, 2, none⟩ = some (.string a0_2) := (blk_cell BK321.out 2).trans rfl
                              have hcz46_3 : wc.cell? ⟨gb321, 3, none⟩ = some (.int .i64 a0_3) := (blk_cell BK321.out 3).trans rfl
                              have hfz46_0 := blk_frozen BK321.out 0
                              have hfz46_1 := blk_frozen BK321.out 1
                              have hfz46_2 := blk_frozen BK321.out 2
                              have hfz46_3 := blk_frozen BK321.out 3
                              go_wp2
                              repeat (go_quiet (fail); try go_wp2)
                              go_ret
                              exact ⟨by first | rfl | (simp [errW_none, errW_some] <;> rfl) | (simp [*, errW_none, errW_some] <;> rfl), by repeat (first | (with_reducible first | exact HB.out | apply below_alloc | apply pw_below_drewN | apply below_drew1 | refine below_set ?_ GE321.out) | exact HB.out)⟩
                            · rw [if_neg c45] at H
                              have c45b0 : decide (a0_1 ≤ 0) = false := decide_eq_false c45
                              clear c45
                              obtain rfl := Option.some.inj H
                              have hcz47_0 : wc.cell? ⟨gb321, 0, none⟩ = some (.int .i64 a0_0) := (blk_cell BK321.out 0).trans rfl
                              have hcz47_1 : wc.cell? ⟨gb321, 1, none⟩ = some (.int .i64 a0_1) := (blk_cell BK321.out 1).trans rfl
                              have hcz47_2 : wc.cell? ⟨gb321, 2, none⟩ = some (.string a0_2) := (blk_cell BK321.out 2).trans rfl
                              have hcz47_3 : wc.cell? ⟨gb321, 3, none⟩ = some (.int .i64 a0_3) := (blk_cell BK321.out 3).trans rfl
                              have hfz47_0 := blk_frozen BK321.out 0
                              have hfz47_1 := blk_frozen BK321.out 1
                              have hfz47_2 := blk_frozen BK321.out 2
                              have hfz47_3 := blk_frozen BK321.out 3
                              go_wp2
                              repeat (go_quiet (fail); try go_wp2)
                              go_ret
                              exact ⟨by first | rfl | (simp [errW_none, errW_some] <;> rfl) | (simp [*, errW_none, errW_some] <;> rfl), by repeat (first | (with_reducible first | exact HB.out | apply below_alloc | apply pw_below_drewN | apply below_drew1 | refine below_set ?_ GE321.out) | exact HB.out)⟩
                          · rw [if_neg c44] at H
                            have c44b0 : decide (0 ≤ a0_1) = false := decide_eq_false c44
                            clear c44
                            obtain rfl := Option.some.inj H
                            have hcz48_0 : wc.cell? ⟨gb321, 0, none⟩ = some (.int .i64 a0_0) := (blk_cell BK321.out 0).trans rfl
                            have hcz48_1 : wc.cell? ⟨gb321, 1, none⟩ = some (.int .i64 a0_1) := (blk_cell BK321.out 1).trans rfl
                            have hcz48_2 : wc.cell? ⟨gb321, 2, none⟩ = some (.string a0_2) := (blk_cell BK321.out 2).trans rfl
                            have hcz48_3 : wc.cell? ⟨gb321, 3, none⟩ = some (.int .i64 a0_3) := (blk_cell BK321.out 3).trans rfl
                            have hfz48_0 := blk_frozen BK321.out 0
                            have hfz48_1 := blk_frozen BK321.out 1
                            have hfz48_2 := blk_frozen BK321.out 2
                            have hfz48_3 := blk_frozen BK321.out 3
                            go_wp2
                            repeat (go_quiet (fail); try go_wp2)
                            go_ret
                            exact ⟨by first | rfl | (simp [errW_none, errW_some] <;> rfl) | (simp [*, errW_none, errW_some] <;> rfl), by repeat (first | (with_reducible first | exact HB.out | apply below_alloc | apply pw_below_drewN | apply below_drew1 | refine below_set ?_ GE321.out) | exact HB.out)⟩
                        · rw [if_neg c43] at H
                          have c43b0 : decide (a0_0 ≤ 14) = false := decide_eq_false c43
                          clear c43
                          obtain rfl := Option.some.inj H
                          have hcz49_0 : wc.cell? ⟨gb321, 0, none⟩ = some (.int .i64 a0_0) := (blk_cell BK321.out 0).trans rfl
                          have hcz49_1 : wc.cell? ⟨gb321, 1, none⟩ = some (.int .i64 a0_1) := (blk_cell BK321.out 1).trans rfl
                          have hcz49_2 : wc.cell? ⟨gb321, 2, none⟩ = some (.string a0_2) := (blk_cell BK321.out 2).trans rfl
                          have hcz49_3 : wc.cell? ⟨gb321, 3, none⟩ = some (.int .i64 a0_3) := (blk_cell BK321.out 3).trans rfl
                          have hfz49_0 := blk_frozen BK321.out 0
                          have hfz49_1 := blk_frozen BK321.out 1
                          have hfz49_2 := blk_frozen BK321.out 2
                          have hfz49_3 := blk_frozen BK321.out 3
                          go_wp2
                          repeat (go_quiet (fail); try go_wp2)
                          go_ret
                          exact ⟨by first | rfl | (simp [errW_none, errW_some] <;> rfl) | (simp [*, errW_none, errW_some] <;> rfl), by repeat (first | (with_reducible first | exact HB.out | apply below_alloc | apply pw_below_drewN | apply below_drew1 | refine below_set ?_ GE321.out) | exact HB.out)⟩
                      · rw [if_neg c42] at H
                        have c42b0 : decide (1 ≤ a0_0) = false := decide_eq_false c42
                        clear c42
                        obtain rfl := Option.some.inj H
                        have hcz50_0 : wc.cell? ⟨gb321, 0, none⟩ = some (.int .i64 a0_0) := (blk_cell BK321.out 0).trans rfl
                        have hcz50_1 : wc.cell? ⟨gb321, 1, none⟩ = some (.int .i64 a0_1) := (blk_cell BK321.out 1).trans rfl
                        have hcz50_2 : wc.cell? ⟨gb321, 2, none⟩ = some (.string a0_2) := (blk_cell BK321.out 2).trans rfl
                        have hcz50_3 : wc.cell? ⟨gb321, 3, none⟩ = some (.int .i64 a0_3) := (blk_cell BK321.out 3).trans rfl
                        have hfz50_0 := blk_frozen BK321.out 0
                        have hfz50_1 := blk_frozen BK321.out 1
                        have hfz50_2 := blk_frozen BK321.out 2
                        have hfz50_3 := blk_frozen BK321.out 3
                        go_wp2
                        repeat (go_quiet (fail); try go_wp2)
                        go_ret
                        exact ⟨by first | rfl | (simp [errW_none, errW_some] <;> rfl) | (simp [*, errW_none, errW_some] <;> rfl), by repeat (first | (with_reducible first | exact HB.out | apply below_alloc | apply pw_below_drewN | apply below_drew1 | refine below_set ?_ GE321.out) | exact HB.out)⟩
                    · rw [if_neg c41] at H
                      have c41b0 : (a0_0 == 2) = false := beq_eq_false_iff_ne.mpr c41
                      have c41b1 : (a0_0 != 2) = true := bne_iff_ne.mpr c41
                      by_cases c51 : a0_0 ≥ 1
                      · rw [if_pos c51] at H
                        have c51b0 : decide (1 ≤ a0_0) = true := decide_eq_true c51
                        clear c51
                        by_cases c52 : a0_0 ≤ 14
                        · rw [if_pos c52] at H
                          have c52b0 : decide (a0_0 ≤ 14) = true := decide_eq_true c52
                          clear c52
                          by_cases c53 : a0_1 ≥ 0
                          · rw [if_pos c53] at H
                            have c53b0 : decide (0 ≤ a0_1) = true := decide_eq_true c53
                            clear c53
                            by_cases c54 : a0_1 ≤ 0
                            · rw [if_pos c54] at H
                              have c54b0 : decide (a0_1 ≤ 0) = true := decide_eq_true c54
                              clear c54
                              have H1 : (if a0_2.toList = ([] : List UInt8) then (some (decide (a0_3 ≥ 0))) else (some false)) = some r := by rw [if_neg (show ¬ (false = true) by decide)] at H; exact H
                              clear H
                              have H := H1
                              clear H1
                              by_cases c56 : a0_2.toList = ([] : List UInt8)
                              · rw [if_pos c56] at H
                                have c56b0 : (a0_2.toList == ([] : List UInt8)) = true := beq_iff_eq.mpr c56
                                have c56b1 : (a0_2.toList != ([] : List UInt8)) = false := bne_eq_false_iff_eq.mpr c56
                                clear c56
                                obtain rfl := Option.some.inj H
                                have hcz57_0 : wc.cell? ⟨gb321, 0, none⟩ = some (.int .i64 a0_0) := (blk_cell BK321.out 0).trans rfl
                                have hcz57_1 : wc.cell? ⟨gb321, 1, none⟩ = some (.int .i64 a0_1) := (blk_cell BK321.out 1).trans rfl
                                have hcz57_2 : wc.cell? ⟨gb321, 2, none⟩ = some (.string a0_2) := (blk_cell BK321.out 2).trans rfl
                                have hcz57_3 : wc.cell? ⟨gb321, 3, none⟩ = some (.int .i64 a0_3) := (blk_cell BK321.out 3).trans rfl
                                have hfz57_0 := blk_frozen BK321.out 0
                                have hfz57_1 := blk_frozen BK321.out 1
                                have hfz57_2 := blk_frozen BK321.out 2
                                have hfz57_3 := blk_frozen BK321.out 3
                                go_wp2
                                repeat (go_quiet (fail); try go_wp2)
                                go_ret
                                exact ⟨by first | rfl | (simp [errW_none, errW_some] <;> rfl) | (simp [*, errW_none, errW_some] <;> rfl), by repeat (first | (with_reducible first | exact HB.out | apply below_alloc | apply pw_below_drewN | apply below_drew1 | refine below_set ?_ GE321.out) | exact HB.out)⟩
                              · rw [if_neg c56] at H
                                have c56b0 : (a0_2.toList == ([] : List UInt8)) = false := beq_eq_false_iff_ne.mpr c56
                                have c56b1 : (a0_2.toList != ([] : List UInt8)) = true := bne_iff_ne.mpr c56
                                obtain rfl := Option.some.inj H
                                have hcz58_0 : wc.cell? ⟨gb321, 0, none⟩ = some (.int .i64 a0_0) := (blk_cell BK321.out 0).trans rfl
                                have hcz58_1 : wc.cell? ⟨gb321, 1, none⟩ = some (.int .i64 a0_1) := (blk_cell BK321.out 1).trans rfl
                                have hcz58_2 : wc.cell? ⟨gb321, 2, none⟩ = some (.string a0_2) := (blk_cell BK321.out 2).trans rfl
                                have hcz58_3 : wc.cell? ⟨gb321, 3, none⟩ = some (.int .i64 a0_3) := (blk_cell BK321.out 3).trans rfl
                                have hfz58_0 := blk_frozen BK321.out 0
                                have hfz58_1 := blk_frozen BK321.out 1
                                have hfz58_2 := blk_frozen BK321.out 2
                                have hfz58_3 := blk_frozen BK321.out 3
                                go_wp2
                                repeat (go_quiet (fail); try go_wp2)
                                go_ret
                                exact ⟨by first | rfl | (simp [errW_none, errW_some] <;> rfl) | (simp [*, errW_none, errW_some] <;> rfl), by repeat (first | (with_reducible first | exact HB.out | apply below_alloc | apply pw_below_drewN | apply below_drew1 | refine below_set ?_ GE321.out) | exact HB.out)⟩
                            · rw [if_neg c54] at H
                              have c54b0 : decide (a0_1 ≤ 0) = false := decide_eq_false c54
                              clear c54
                              obtain rfl := Option.some.inj H
                              have hcz59_0 : wc.cell? ⟨gb321, 0, none⟩ = some (.int .i64 a0_0) := (blk_cell BK321.out 0).trans rfl
                              have hcz59_1 : wc.cell? ⟨gb321, 1, none⟩ = some (.int .i64 a0_1) := (blk_cell BK321.out 1).trans rfl
                              have hcz59_2 : wc.cell? ⟨gb321, 2, none⟩ = some (.string a0_2) := (blk_cell BK321.out 2).trans rfl
                              have hcz59_3 : wc.cell? ⟨gb321, 3, none⟩ = some (.int .i64 a0_3) := (blk_cell BK321.out 3).trans rfl
                              have hfz59_0 := blk_frozen BK321.out 0
                              have hfz59_1 := blk_frozen BK321.out 1
                              have hfz59_2 := blk_frozen BK321.out 2
                              have hfz59_3 := blk_frozen BK321.out 3
                              go_wp2
                              repeat (go_quiet (fail); try go_wp2)
                              go_ret
                              exact ⟨by first | rfl | (simp [errW_none, errW_some] <;> rfl) | (simp [*, errW_none, errW_some] <;> rfl), by repeat (first | (with_reducible first | exact HB.out | apply below_alloc | apply pw_below_drewN | apply below_drew1 | refine below_set ?_ GE321.out) | exact HB.out)⟩
                          · rw [if_neg c53] at H
                            have c53b0 : decide (0 ≤ a0_1) = false := decide_eq_false c53
                            clear c53
                            obtain rfl := Option.some.inj H
                            have hcz60_0 : wc.cell? ⟨gb321, 0, none⟩ = some (.int .i64 a0_0) := (blk_cell BK321.out 0).trans rfl
                            have hcz60_1 : wc.cell? ⟨gb321, 1, none⟩ = some (.int .i64 a0_1) := (blk_cell BK321.out 1).trans rfl
                            have hcz60_2 : wc.cell? ⟨gb321, 2, none⟩ = some (.string a0_2) := (blk_cell BK321.out 2).trans rfl
                            have hcz60_3 : wc.cell? ⟨gb321, 3, none⟩ = some (.int .i64 a0_3) := (blk_cell BK321.out 3).trans rfl
                            have hfz60_0 := blk_frozen BK321.out 0
                            have hfz60_1 := blk_frozen BK321.out 1
                            have hfz60_2 := blk_frozen BK321.out 2
                            have hfz60_3 := blk_frozen BK321.out 3
                            go_wp2
                            repeat (go_quiet (fail); try go_wp2)
                            go_ret
                            exact ⟨by first | rfl | (simp [errW_none, errW_some] <;> rfl) | (simp [*, errW_none, errW_some] <;> rfl), by repeat (first | (with_reducible first | exact HB.out | apply below_alloc | apply pw_below_drewN | apply below_drew1 | refine below_set ?_ GE321.out) | exact HB.out)⟩
                        · rw [if_neg c52] at H
                          have c52b0 : decide (a0_0 ≤ 14) = false := decide_eq_false c52
                          clear c52
                          obtain rfl := Option.some.inj H
                          have hcz61_0 : wc.cell? ⟨gb321, 0, none⟩ = some (.int .i64 a0_0) := (blk_cell BK321.out 0).trans rfl
                          have hcz61_1 : wc.cell? ⟨gb321, 1, none⟩ = some (.int .i64 a0_1) := (blk_cell BK321.out 1).trans rfl
                          have hcz61_2 : wc.cell? ⟨gb321, 2, none⟩ = some (.string a0_2) := (blk_cell BK321.out 2).trans rfl
                          have hcz61_3 : wc.cell? ⟨gb321, 3, none⟩ = some (.int .i64 a0_3) := (blk_cell BK321.out 3).trans rfl
                          have hfz61_0 := blk_frozen BK321.out 0
                          have hfz61_1 := blk_frozen BK321.out 1
                          have hfz61_2 := blk_frozen BK321.out 2
                          have hfz61_3 := blk_frozen BK321.out 3
                          go_wp2
                          repeat (go_quiet (fail); try go_wp2)
                          go_ret
                          exact ⟨by first | rfl | (simp [errW_none, errW_some] <;> rfl) | (simp [*, errW_none, errW_some] <;> rfl), by repeat (first | (with_reducible first | exact HB.out | apply below_alloc | apply pw_below_drewN | apply below_drew1 | refine below_set ?_ GE321.out) | exact HB.out)⟩
                      · rw [if_neg c51] at H
                        have c51b0 : decide (1 ≤ a0_0) = false := decide_eq_false c51
                        clear c51
                        obtain rfl := Option.some.inj H
                        have hcz62_0 : wc.cell? ⟨gb321, 0, none⟩ = some (.int .i64 a0_0) := (blk_cell BK321.out 0).trans rfl
                        have hcz62_1 : wc.cell? ⟨gb321, 1, none⟩ = some (.int .i64 a0_1) := (blk_cell BK321.out 1).trans rfl
                        have hcz62_2 : wc.cell? ⟨gb321, 2, none⟩ = some (.string a0_2) := (blk_cell BK321.out 2).trans rfl
                        have hcz62_3 : wc.cell? ⟨gb321, 3, none⟩ = some (.int .i64 a0_3) := (blk_cell BK321.out 3).trans rfl
                        have hfz62_0 := blk_frozen BK321.out 0
                        have hfz62_1 := blk_frozen BK321.out 1
                        have hfz62_2 := blk_frozen BK321.out 2
                        have hfz62_3 := blk_frozen BK321.out 3
                        go_wp2
                        repeat (go_quiet (fail); try go_wp2)
                        go_ret
                        exact ⟨by first | rfl | (simp [errW_none, errW_some] <;> rfl) | (simp [*, errW_none, errW_some] <;> rfl), by repeat (first | (with_reducible first | exact HB.out | apply below_alloc | apply pw_below_drewN | apply below_drew1 | refine below_set ?_ GE321.out) | exact HB.out)⟩

end Go.Proofs.Ytmlemnfleicnfaa.PA
