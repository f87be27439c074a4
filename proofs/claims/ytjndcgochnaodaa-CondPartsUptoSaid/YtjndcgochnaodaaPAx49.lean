/- A Go function of the translation as a plain Lean function, with the proof that the call answers just so. Printed by a program of this session; Lean checks it. -/
import Derived.Test.YtjndcgochnaodaaPAx0
namespace Go.Proofs.Ytjndcgochnaodaa.PA
open Go.RowKit Go.Proofs.YtjndcgochnaodaaW.PrintWords Go.Proofs.YtjndcgochnaodaaW.PrintLast Go.Proofs.YtjndcgochnaodaaW.PrintMore
attribute [local go_sem] max2_int min2_int max_two min_two max_three min_three max_four min_four   -- for this text's walks alone
set_option linter.unusedVariables false
set_option linter.unusedSimpArgs false

/-! ### colloquyref12_has: function 28 -/
def colloquyref12_has.l0 : Nat → ByteArray → ByteArray → Int → ByteArray → List (S36) → Option (Bool)
  | 0, _, _, _, _, _ => none
  | k + 1, x1, x2, x7, x293000, x293001 => if x7 < (x293001.length : Int) then (if 0 ≤ x7 then (if ((rd_T36 x293001 x7).f0).toList = x1.toList then (some (((rd_T36 x293001 x7).f1).toList == x2.toList)) else (colloquyref12_has.l0 k x1 x2 (wrap64 (x7 + 1)) x293000 x293001)) else (none)) else (some false)
def colloquyref12_has.f (k : Nat) (a0_0 : ByteArray) (l0_1 : List (S36)) (a1 : ByteArray) (a2 : ByteArray) : Option (Bool) := colloquyref12_has.l0 k a1 a2 0 a0_0 l0_1
theorem colloquyref12_has.mono_l : ∀ k, (∀ y0 y1 y2 y3 y4, LeO (colloquyref12_has.l0 k y0 y1 y2 y3 y4) (colloquyref12_has.l0 (k + 1) y0 y1 y2 y3 y4))
  | 0 => fun _ _ _ _ _ r h => by simp [colloquyref12_has.l0] at h
  | k + 1 => by
    have ih0 := colloquyref12_has.mono_l k
    · intro y0 y1 y2 y3 y4
      unfold colloquyref12_has.l0
      repeat' first
      | (with_reducible exact ih0 _ _ _ _ _)
      | (with_reducible exact LeO.refl _)
      | (with_reducible exact LeO.none _)
      | (with_reducible refine LeO.ite ?_ ?_)
      | (with_reducible refine LeO.bind ?_ (fun _ => ?_))
      | exact ih0 _ _ _ _ _
      | exact LeO.none _
      | refine LeO.ite ?_ ?_
      | refine LeO.bind ?_ (fun _ => ?_)
theorem colloquyref12_has.mono : ∀ a0 a1 a2 a3 k, LeO (colloquyref12_has.f k a0 a1 a2 a3) (colloquyref12_has.f (k + 1) a0 a1 a2 a3) := by
  intro a0 a1 a2 a3 k
  have ih0 := colloquyref12_has.mono_l k
  unfold colloquyref12_has.f
  repeat' first
      | (with_reducible exact ih0 _ _ _ _ _)
      | (with_reducible exact LeO.refl _)
      | (with_reducible exact LeO.none _)
      | (with_reducible refine LeO.ite ?_ ?_)
      | (with_reducible refine LeO.bind ?_ (fun _ => ?_))
      | exact ih0 _ _ _ _ _
      | exact LeO.none _
      | refine LeO.ite ?_ ?_
      | refine LeO.bind ?_ (fun _ => ?_)
set_option maxHeartbeats 8000000 in
set_option maxRecDepth 100000 in
theorem colloquyref12_has.calls (k : Nat) (a0_0 : ByteArray) (A0_1 : Option Addr) (c0_1 : Nat) (l0_1 : List (S36)) (a1 : ByteArray) (a2 : ByteArray) (r : Bool) (w : World) (hr0_1 : Kd.C k36 w A0_1 l0_1.length l0_1) (hc0_1 : l0_1.length ≤ c0_1) (h : colloquyref12_has.f k a0_0 l0_1 a1 a2 = some r) :
    Calls Try.prog 28 #[.agg #[.string a0_0, .slice A0_1 l0_1.length c0_1], .string a1, .string a2] w fun e w' => e = .returned (.bool r) ∧ Below w.heap.size w w' := by
  have hu27 := Try.underlying27
  have HR0_1 := Aside0.mk hr0_1
  have HC0_1 := Aside0.mk hc0_1
  clear hr0_1 hc0_1
  have HB := Aside0.mk (Below.refl w.heap.size w)
  have H : (colloquyref12_has.l0 k a1 a2 0 a0_0 l0_1) = some r := h
  clear h
  have H' := Aside0.mk H
  clear H
  go_enter Try.func28, Try.ntmps28
  go_wp2_with (first | ((with_reducible refine gate_dst (N := 3) rfl ?_); refine box_event ?hg (N := 3) ?hd (cs := #[.string a0_0, .slice A0_1 l0_1.length c0_1]) (t := 27) ?hr ?_; (case hd => rfl); (case hg => rfl); (case hr => first | (go_simp; done) | (go_simp; rfl)); intro gb292 hg w4 hbox hb; have n0_ := Aside0.mk (below_step (by repeat (first | (with_reducible first | exact HB.out | apply below_alloc | apply pw_below_drewN | apply below_drew1) | exact HB.out)) hb); have n1_ := Aside0.mk (hbox); have n2_ := Aside0.mk ((by rw [hg]; exact (below_size (by repeat (first | (with_reducible first | exact HB.out | apply below_alloc | apply pw_below_drewN | apply below_drew1) | exact HB.out))) : w.heap.size ≤ gb292)); have n3_ := Aside0.mk ((by rw [hg]; exact (below_size (by repeat (first | (with_reducible first | exact HB.out | apply below_alloc | apply pw_below_drewN | apply below_drew1) | exact HB.out))) : w.heap.size ≤ gb292)); clear HB; have HB := n0_; have BK292 := n1_; have GW292 := n2_; have GE292 := n3_; clear n0_ n1_ n2_ n3_; clear hb hbox hg))
  go_loopg [7] k (fun kq v7 w' => ∃ (x7_1 : Int), v7 = .int .i64 x7_1 ∧ Aside0 (colloquyref12_has.l0 kq a1 a2 x7_1 a0_0 l0_1 = some r) ∧ Aside0 (kq ≤ k) ∧ Aside0 (w'.heap[gb292]? = some (.cells #[.string a0_0, (.slice A0_1 l0_1.length c0_1)] 27 (0, 0))) ∧ Aside0 (Below w.heap.size w w'))
  case atStart => exact ⟨(0), (by first | rfl | (simp; done) | (simp [*]; done)), H', ⟨Nat.le_refl _⟩, ⟨by (with_reducible repeat (first | refine blk_drewN ?_ _ | refine blk_drew ?_ | refine blk_alloc ?_ _)); exact BK292.out⟩, ⟨by repeat (first | (with_reducible first | exact HB.out | apply below_alloc | apply pw_below_drewN | apply below_drew1 | refine below_set ?_ GE292.out) | exact HB.out)⟩⟩
  case round =>
    clear H'
    try clear c2
    try clear p2
    obtain ⟨x7_1, rfl, HA, HK1, BK292, HB⟩ := hrel
    cases gk with
    | zero => exact absurd HA.out (by simp [colloquyref12_has.l0])
    | succ k1 =>
      have H := HA.out
      clear HA
      simp only [colloquyref12_has.l0] at H
      by_cases c5 : x7_1 < (l0_1.length : Int)
      · rw [if_pos c5] at H
        have c5b0 : decide (x7_1 < (l0_1.length : Int)) = true := decide_eq_true c5
        clear c5
        by_cases c6 : 0 ≤ x7_1
        · rw [if_pos c6] at H
          have c6b0 : decide (0 ≤ x7_1) = true := decide_eq_true c6
          clear c6
          by_cases c7 : ((rd_T36 l0_1 x7_1).f0).toList = a1.toList
          · rw [if_pos c7] at H
            have c7b0 : (((rd_T36 l0_1 x7_1).f0).toList == a1.toList) = true := beq_iff_eq.mpr c7
            have c7b1 : (((rd_T36 l0_1 x7_1).f0).toList != a1.toList) = false := bne_eq_false_iff_eq.mpr c7
            clear c7
            obtain rfl := Option.some.inj H
            have hcz8_0 : wr.cell? ⟨gb292, 0, none⟩ = some (.string a0_0) := (blk_cell BK292.out 0).trans rfl
            have hcz8_1 : wr.cell? ⟨gb292, 1, none⟩ = some (.slice A0_1 l0_1.length c0_1) := (blk_cell BK292.out 1).trans rfl
            have hfz8_0 := blk_frozen BK292.out 0
            have hfz8_1 := blk_frozen BK292.out 1
            have p293 : 0 ≤ (x7_1 : Int) := of_decide_eq_true (by first | (with_reducible assumption) | assumption)
            have q293 : x7_1 < (l0_1.length : Int) := of_decide_eq_true (by first | (with_reducible assumption) | assumption)
            obtain ⟨ad293, e293, hx293_0, hx293_1⟩ := at_T36 HR0_1.out x7_1 p293 q293
            cases e293
            replace hx293_0 := (HB.out.cell (World.block_lt_of_cell? w _ hx293_0)).trans hx293_0
            replace hx293_1 := (HB.out.cell (World.block_lt_of_cell? w _ hx293_1)).trans hx293_1
            replace p293 := eq_true p293
            replace q293 := eq_true q293
            have p294 : 0 ≤ (x7_1 : Int) := of_decide_eq_true (by first | (with_reducible assumption) | assumption)
            have q294 : x7_1 < (l0_1.length : Int) := of_decide_eq_true (by first | (with_reducible assumption) | assumption)
            obtain ⟨ad294, e294, hx294_0, hx294_1⟩ := at_T36 HR0_1.out x7_1 p294 q294
            obtain rfl : ad293 = ad294 := (by injection e294)
            replace hx294_0 := (HB.out.cell (World.block_lt_of_cell? w _ hx294_0)).trans hx294_0
            replace hx294_1 := (HB.out.cell (World.block_lt_of_cell? w _ hx294_1)).trans hx294_1
            replace p294 := eq_true p294
            replace q294 := eq_true q294
            go_wp2
            go_ret
            exact ⟨by first | rfl | (simp [errW_none, errW_some] <;> rfl) | (simp [*, errW_none, errW_some] <;> rfl), by repeat (first | (with_reducible first | exact HB.out | apply below_alloc | apply pw_below_drewN | apply below_drew1 | refine below_set ?_ GE292.out) | exact HB.out)⟩
          · rw [if_neg c7] at H
            have c7b0 : (((rd_T36 l0_1 x7_1).f0).toList == a1.toList) = false := beq_eq_false_iff_ne.mpr c7
            have c7b1 : (((rd_T36 l0_1 x7_1).f0).toList != a1.toList) = true := bne_iff_ne.mpr c7
            have H' := Aside0.mk H
            clear H
            have hcz9_0 : wr.cell? ⟨gb292, 0, none⟩ = some (.string a0_0) := (blk_cell BK292.out 0).trans rfl
            have hcz9_1 : wr.cell? ⟨gb292, 1, none⟩ = some (.slice A0_1 l0_1.length c0_1) := (blk_cell BK292.out 1).trans rfl
            have hfz9_0 := blk_frozen BK292.out 0
            have hfz9_1 := blk_frozen BK292.out 1
            have p293 : 0 ≤ (x7_1 : Int) := of_decide_eq_true (by first | (with_reducible assumption) | assumption)
            have q293 : x7_1 < (l0_1.length : Int) := of_decide_eq_true (by first | (with_reducible assumption) | assumption)
            obtain ⟨ad293, e293, hx293_0, hx293_1⟩ := at_T36 HR0_1.out x7_1 p293 q293
            cases e293
            replace hx293_0 := (HB.out.cell (World.block_lt_of_cell? w _ hx293_0)).trans hx293_0
            replace hx293_1 := (HB.out.cell (World.block_lt_of_cell? w _ hx293_1)).trans hx293_1
            replace p293 := eq_true p293
            replace q293 := eq_true q293
            go_wp2
            go_roundg k1
            case measure => have := HK1.out; omega
            case rel => exact ⟨(wrap64 (x7_1 + 1)), (by first | rfl | (simp; done) | (simp [*]; done)), H', ⟨by have := HK1.out; omega⟩, ⟨by (with_reducible repeat (first | refine blk_drewN ?_ _ | refine blk_drew ?_ | refine blk_alloc ?_ _)); exact BK292.out⟩, ⟨by repeat (first | (with_reducible first | exact HB.out | apply below_alloc | apply pw_below_drewN | apply below_drew1 | refine below_set ?_ GE292.out) | exact HB.out)⟩⟩
        · rw [if_neg c6] at H
          exact absurd H (by simp)
      · rw [if_neg c5] at H
        have c5b0 : decide (x7_1 < (l0_1.length : Int)) = false := decide_eq_false c5
        clear c5
        obtain rfl := Option.some.inj H
        have hcz10_0 : wr.cell? ⟨gb292, 0, none⟩ = some (.string a0_0) := (blk_cell BK292.out 0).trans rfl
        have hcz10_1 : wr.cell? ⟨gb292, 1, none⟩ = some (.slice A0_1 l0_1.length c0_1) := (blk_cell BK292.out 1).trans rfl
        have hfz10_0 := blk_frozen BK292.out 0
        have hfz10_1 := blk_frozen BK292.out 1
        go_wp2
        go_ret
        exact ⟨by first | rfl | (simp [errW_none, errW_some] <;> rfl) | (simp [*, errW_none, errW_some] <;> rfl), by repeat (first | (with_reducible first | exact HB.out | apply below_alloc | apply pw_below_drewN | apply below_drew1 | refine below_set ?_ GE292.out) | exact HB.out)⟩

end Go.Proofs.Ytjndcgochnaodaa.PA
