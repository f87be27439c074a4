/- A Go function of the translation as a plain Lean function, with the proof that the call answers just so. Printed by a program of this session; Lean checks it. -/
import Derived.Test.YtmlemnfleicnfaaPAx0
import Derived.Test.YtmlemnfleicnfaaPAx43
import Derived.Test.YtmlemnfleicnfaaPAx46
namespace Go.Proofs.Ytmlemnfleicnfaa.PA
open Go.RowKit Go.Proofs.YtmlemnfleicnfaaW.PrintWords Go.Proofs.YtmlemnfleicnfaaW.PrintLast Go.Proofs.YtmlemnfleicnfaaW.PrintMore
attribute [local go_sem] max2_int min2_int max_two min_two max_three min_three max_four min_four   -- for this text's walks alone
set_option linter.unusedVariables false
set_option linter.unusedSimpArgs false

/-! ### trace_Right: function 53 -/
mutual
def trace_Right.l0 : Nat → List (S70) → Int → List (S70) → Int → Int → Option (Bool)
  | 0, _, _, _, _, _ => none
  | k + 1, x0, x3, x6, x7, x8 => if x8 < x7 then (if 0 ≤ x8 then (if x8 < (x6.length : Int) then (if ((rd_T70 x6 x8).f0) = 1 then (if ((rd_T70 x6 x8).f3) = 0 then (trace_Right.j1 k x0 0 x8 x6 x7 x8 ((rd_T70 x6 x8).f0) ((rd_T70 x6 x8).f1) ((rd_T70 x6 x8).f2) ((rd_T70 x6 x8).f3)) else (some false)) else (trace_Right.j1 k x0 x3 x8 x6 x7 x8 ((rd_T70 x6 x8).f0) ((rd_T70 x6 x8).f1) ((rd_T70 x6 x8).f2) ((rd_T70 x6 x8).f3))) else (none)) else (none)) else (some true)
def trace_Right.j1 : Nat → List (S70) → Int → Int → List (S70) → Int → Int → Int → Int → ByteArray → Int → Option (Bool)
  | 0, _, _, _, _, _, _, _, _, _, _ => none
  | k + 1, x0, x3, x4, x6, x7, x8, x324000, x324001, x324002, x324003 => (trace_right.f k x324000 x324001 x324002 x324003).bind fun t324 => (if t324 = true then (if x324003 < x3 then (some false) else ((trace_Decides.f k x324000 x324001 x324002 x324003).bind fun t325 => (if t325 = true then (if x4 < (wrap64 ((x0.length : Int) - 1)) then (some false) else (trace_Right.l0 k x0 x324003 x6 x7 (wrap64 (x8 + 1)))) else (trace_Right.l0 k x0 x324003 x6 x7 (wrap64 (x8 + 1)))))) else (some false))
end
def trace_Right.f (k : Nat) (l0 : List (S70)) : Option (Bool) := trace_Right.l0 k l0 0 l0 (l0.length : Int) 0
theorem trace_Right.mono_l : ∀ k, (∀ y0 y1 y2 y3 y4, LeO (trace_Right.l0 k y0 y1 y2 y3 y4) (trace_Right.l0 (k + 1) y0 y1 y2 y3 y4)) ∧ (∀ y0 y1 y2 y3 y4 y5 y6 y7 y8 y9, LeO (trace_Right.j1 k y0 y1 y2 y3 y4 y5 y6 y7 y8 y9) (trace_Right.j1 (k + 1) y0 y1 y2 y3 y4 y5 y6 y7 y8 y9))
  | 0 => ⟨fun _ _ _ _ _ r h => by simp [trace_Right.l0] at h, fun _ _ _ _ _ _ _ _ _ _ r h => by simp [trace_Right.j1] at h⟩
  | k + 1 => by
    obtain ⟨ih0, ih1⟩ := trace_Right.mono_l k
    refine ⟨?_, ?_⟩
    · intro y0 y1 y2 y3 y4
      unfold trace_Right.l0
      repeat' first
      | (with_reducible exact ih0 _ _ _ _ _)
      | (with_reducible exact ih1 _ _ _ _ _ _ _ _ _ _)
      | (with_reducible exact trace_Decides.mono _ _ _ _ _)
      | (with_reducible exact trace_right.mono _ _ _ _ _)
      | (with_reducible exact LeO.refl _)
      | (with_reducible exact LeO.none _)
      | (with_reducible refine LeO.ite ?_ ?_)
      | (with_reducible refine LeO.bind ?_ (fun _ => ?_))
      | exact ih0 _ _ _ _ _
      | exact ih1 _ _ _ _ _ _ _ _ _ _
      | exact trace_Decides.mono _ _ _ _ _
      | exact trace_right.mono _ _ _ _ _
      | exact LeO.none _
      | refine LeO.ite ?_ ?_
      | refine LeO.bind ?_ (fun _ => ?_)
    · intro y0 y1 y2 y3 y4 y5 y6 y7 y8 y9
      unfold trace_Right.j1
      repeat' first
      | (with_reducible exact ih0 _ _ _ _ _)
      | (with_reducible exact ih1 _ _ _ _ _ _ _ _ _ _)
      | (with_reducible exact trace_Decides.mono _ _ _ _ _)
      | (with_reducible exact trace_right.mono _ _ _ _ _)
      | (with_reducible exact LeO.refl _)
      | (with_reducible exact LeO.none _)
      | (with_reducible refine LeO.ite ?_ ?_)
      | (with_reducible refine LeO.bind ?_ (fun _ => ?_))
      | exact ih0 _ _ _ _ _
      | exact ih1 _ _ _ _ _ _ _ _ _ _
      | exact trace_Decides.mono _ _ _ _ _
      | exact trace_right.mono _ _ _ _ _
      | exact LeO.none _
      | refine LeO.ite ?_ ?_
      | refine LeO.bind ?_ (fun _ => ?_)
theorem trace_Right.mono : ∀ a0 k, LeO (trace_Right.f k a0) (trace_Right.f (k + 1) a0) := by
  intro a0 k
  obtain ⟨ih0, ih1⟩ := trace_Right.mono_l k
  unfold trace_Right.f
  repeat' first
      | (with_reducible exact ih0 _ _ _ _ _)
      | (with_reducible exact ih1 _ _ _ _ _ _ _ _ _ _)
      | (with_reducible exact trace_Decides.mono _ _ _ _ _)
      | (with_reducible exact trace_right.mono _ _ _ _ _)
      | (with_reducible exact LeO.refl _)
      | (with_reducible exact LeO.none _)
      | (with_reducible refine LeO.ite ?_ ?_)
      | (with_reducible refine LeO.bind ?_ (fun _ => ?_))
      | exact ih0 _ _ _ _ _
      | exact ih1 _ _ _ _ _ _ _ _ _ _
      | exact trace_Decides.mono _ _ _ _ _
      | exact trace_right.mono _ _ _ _ _
      | exact LeO.none _
      | refine LeO.ite ?_ ?_
      | refine LeO.bind ?_ (fun _ => ?_)
set_option maxHeartbeats 8000000 in
set_option maxRecDepth 100000 in
theorem trace_Right.calls (k : Nat) (A0 : Option Addr) (c0 : Nat) (l0 : List (S70)) (r : Bool) (w : World) (hr0 : Kd.C k70 w A0 l0.length l0) (hc0 : l0.length ≤ c0) (h : trace_Right.f k l0 = some r) :
    Calls Try.prog 53 #[.slice A0 l0.length c0] w fun e w' => e = .returned (.bool r) ∧ Below w.heap.size w w' := by
  have hu70 := Try.underlying70
  have HR0 := Aside0.mk hr0
  have HC0 := Aside0.mk hc0
  clear hr0 hc0
  have HB := Aside0.mk (Below.refl w.heap.size w)
  have H : (trace_Right.l0 k l0 0 l0 (l0.length : Int) 0) = some r := h
  clear h
  have H' := Aside0.mk H
  clear H
  go_enter Try.func53, Try.ntmps53
  go_wp2
  go_loopg [3, 8] k (fun kq v3 v8 w' => ∃ (x3_1 : Int) (x8_1 : Int), v3 = .int .i64 x3_1 ∧ v8 = .int .i64 x8_1 ∧ Aside0 (trace_Right.l0 kq l0 x3_1 l0 (l0.length : Int) x8_1 = some r) ∧ Aside0 (kq ≤ k) ∧ Aside0 (Below w.heap.size w w'))
  case atStart => exact ⟨(0), (0), (by first | rfl | (simp; done) | (simp [*]; done)), (by first | rfl | (simp; done) | (simp [*]; done)), H', ⟨Nat.le_refl _⟩, ⟨by repeat (first | (with_reducible first | exact HB.out | apply below_alloc | apply pw_below_drewN | apply below_drew1) | exact HB.out)⟩⟩
  case round =>
    clear H'
    obtain ⟨x3_1, x8_1, rfl, rfl, HA, HK1, HB⟩ := hrel
    cases gk with
    | zero => exact absurd HA.out (by simp [trace_Right.l0])
    | succ k1 =>
      have H := HA.out
      clear HA
      simp only [trace_Right.l0] at H
      by_cases c2 : x8_1 < (l0.length : Int)
      · rw [if_pos c2] at H
        have c2b0 : decide (x8_1 < (l0.length : Int)) = true := decide_eq_true c2
        clear c2
        by_cases c3 : 0 ≤ x8_1
        · rw [if_pos c3] at H
          have c3b0 : decide (0 ≤ x8_1) = true := decide_eq_true c3
          clear c3
          by_cases c4 : x8_1 < (l0.length : Int)
          · rw [if_pos c4] at H
            have c4b0 : decide (x8_1 < (l0.length : Int)) = true := decide_eq_true c4
            clear c4
            have HC5 := Aside0.mk H
            clear H
            have p322 : 0 ≤ (x8_1 : Int) := of_decide_eq_true (by first | (with_reducible assumption) | assumption)
            have q322 : x8_1 < (l0.length : Int) := of_decide_eq_true (by first | (with_reducible assumption) | assumption)
            obtain ⟨ad322, e322, hx322_0, hx322_1, hx322_2, hx322_3⟩ := at_T70 HR0.out x8_1 p322 q322
            cases e322
            replace hx322_0 := (HB.out.cell (World.block_lt_of_cell? w _ hx322_0)).trans hx322_0
            replace hx322_1 := (HB.out.cell (World.block_lt_of_cell? w _ hx322_1)).trans hx322_1
            replace hx322_2 := (HB.out.cell (World.block_lt_of_cell? w _ hx322_2)).trans hx322_2
            replace hx322_3 := (HB.out.cell (World.block_lt_of_cell? w _ hx322_3)).trans hx322_3
            replace p322 := eq_true p322
            replace q322 := eq_true q322
            go_upto_if 15 with (first | ((with_reducible refine gate_dst (N := 5) rfl ?_); (try (refine gate_guard (by rfl) ?_; dsimp only)); refine box_event ?hg (N := 5) ?hd (cs := #[.int .i64 0, .int .i64 0, .string (⟨#[]⟩ : ByteArray), .int .i64 0]) (t := 70) ?hr ?_; (case hd => rfl); (case hg => rfl); (case hr => first | (go_simp; done) | (go_simp; rfl)); intro gb323 hg w6 hbox hb; have n0_ := Aside0.mk (below_step (by repeat (first | (with_reducible first | exact HB.out | apply below_alloc | apply pw_below_drewN | apply below_drew1) | exact HB.out)) hb); have n1_ := Aside0.mk (hbox); have n2_ := Aside0.mk ((by rw [hg]; exact (below_size (by repeat (first | (with_reducible first | exact HB.out | apply below_alloc | apply pw_below_drewN | apply below_drew1) | exact HB.out))) : w.heap.size ≤ gb323)); have n3_ := Aside0.mk ((by rw [hg]; exact (below_size (by repeat (first | (with_reducible first | exact HB.out | apply below_alloc | apply pw_below_drewN | apply below_drew1) | exact HB.out))) : w.heap.size ≤ gb323)); clear HB; have HB := n0_; have BK323 := n1_; have GW323 := n2_; have GE323 := n3_; clear n0_ n1_ n2_ n3_; clear hb hbox hg; have hcz7_0 : w6.cell? ⟨gb323, 0, none⟩ = some (.int .i64 0) := (blk_cell BK323.out 0).trans rfl; have hcz7_1 : w6.cell? ⟨gb323, 1, none⟩ = some (.int .i64 0) := (blk_cell BK323.out 1).trans rfl; have hcz7_2 : w6.cell? ⟨gb323, 2, none⟩ = some (.string (⟨#[]⟩ : ByteArray)) := (blk_cell BK323.out 2).trans rfl; have hcz7_3 : w6.cell? ⟨gb323, 3, none⟩ = some (.int .i64 0) := (blk_cell BK323.out 3).trans rfl; have hfz7_0 := blk_frozen BK323.out 0; have hfz7_1 := blk_frozen BK323.out 1; have hfz7_2 := blk_frozen BK323.out 2; have hfz7_3 := blk_frozen BK323.out 3))
            (try simp only [Act.put, List.setIfInBounds_toArray, List.set_cons_zero, List.set_cons_succ])
            go_cut [3] (fun v3 wc => ∃ (kq : Nat) (x3_4 : Int), v3 = .int .i64 x3_4 ∧ Aside0 (trace_Right.j1 kq l0 x3_4 x8_1 l0 (l0.length : Int) x8_1 ((rd_T70 l0 x8_1).f0) ((rd_T70 l0 x8_1).f1) ((rd_T70 l0 x8_1).f2) ((rd_T70 l0 x8_1).f3) = some r) ∧ Aside0 (kq ≤ k1) ∧ Aside0 (wc.heap[gb323]? = some (.cells #[.int .i64 ((rd_T70 l0 x8_1).f0), .int .i64 ((rd_T70 l0 x8_1).f1), .string ((rd_T70 l0 x8_1).f2), .int .i64 ((rd_T70 l0 x8_1).f3)] 70 (0, 0))) ∧ Aside0 (Below w.heap.size w wc))
            case first =>
              have H := HC5.out
              clear HC5
              by_cases c8 : ((rd_T70 l0 x8_1).f0) = 1
              · rw [if_pos c8] at H
                have c8b0 : (((rd_T70 l0 x8_1).f0) == 1) = true := beq_iff_eq.mpr c8
                have c8b1 : (((rd_T70 l0 x8_1).f0) != 1) = false := bne_eq_false_iff_eq.mpr c8
                clear c8
                (first | rw [c8b0] | rw [c8b1] | (simp only [i64_w, i32_w]; rw [c8b0]) | skip)
                by_cases c9 : ((rd_T70 l0 x8_1).f3) = 0
                · rw [if_pos c9] at H
                  have c9b0 : (((rd_T70 l0 x8_1).f3) == 0) = true := beq_iff_eq.mpr c9
                  have c9b1 : (((rd_T70 l0 x8_1).f3) != 0) = false := bne_eq_false_iff_eq.mpr c9
                  clear c9
                  have H' := Aside0.mk H
                  clear H
                  have hcz10_0 : w6.cell? ⟨gb323, 0, none⟩ = some (.int .i64 0) := (blk_cell BK323.out 0).trans rfl
                  have hcz10_1 : w6.cell? ⟨gb323, 1, none⟩ = some (.int .i64 0) := (blk_cell BK323.out 1).trans rfl
                  have hcz10_2 : w6.cell? ⟨gb323, 2, none⟩ = some (.string (⟨#[]⟩ : ByteArray)) := (blk_cell BK323.out 2).trans rfl
                  have hcz10_3 : w6.cell? ⟨gb323, 3, none⟩ = some (.int .i64 0) := (blk_cell BK323.out 3).trans rfl
                  have hfz10_0 := blk_frozen BK323.out 0
                  have hfz10_1 := blk_frozen BK323.out 1
                  have hfz10_2 := blk_frozen BK323.out 2
                  have hfz10_3 := blk_frozen BK323.out 3
                  go_wp2
                  go_meet
                  case rel => exact ⟨_, (0), (by first | rfl | (simp; done) | (simp [*]; done)), H', ⟨by have := HK1.out; first | omega | exact Nat.le_refl _⟩, ⟨by (with_reducible repeat (first | refine blk_drewN ?_ _ | refine blk_drew ?_ | refine blk_alloc ?_ _)); refine blk_put (cs := #[.int .i64 ((rd_T70 l0 x8_1).f0), .int .i64 ((rd_T70 l0 x8_1).f1), .string ((rd_T70 l0 x8_1).f2), .int .i64 0]) ?_ 3 _ rfl; (with_reducible repeat (first | refine blk_drewN ?_ _ | refine blk_drew ?_ | refine blk_alloc ?_ _)); refine blk_put (cs := #[.int .i64 ((rd_T70 l0 x8_1).f0), .int .i64 ((rd_T70 l0 x8_1).f1), .string (⟨#[]⟩ : ByteArray), .int .i64 0]) ?_ 2 _ rfl; (with_reducible repeat (first | refine blk_drewN ?_ _ | refine blk_drew ?_ | refine blk_alloc ?_ _)); refine blk_put (cs := #[.int .i64 ((rd_T70 l0 x8_1).f0), .int .i64 0, .string (⟨#[]⟩ : ByteArray), .int .i64 0]) ?_ 1 _ rfl; (with_reducible repeat (first | refine blk_drewN ?_ _ | refine blk_drew ?_ | refine blk_alloc ?_ _)); refine blk_put (cs := #[.int .i64 0, .int .i64 0, .string (⟨#[]⟩ : ByteArray), .int .i64 0]) ?_ 0 _ rfl; (with_reducible repeat (first | refine blk_drewN ?_ _ | refine blk_drew ?_ | refine blk_alloc ?_ _)); exact BK323.out⟩, ⟨by repeat (first | (with_reducible first | exact HB.out | apply below_alloc | apply pw_below_drewN | apply below_drew1 | refine below_set ?_ GE323.out) | exact HB.out)⟩⟩
                · rw [if_neg c9] at H
                  have c9b0 : (((rd_T70 l0 x8_1).f3) == 0) = false := beq_eq_false_iff_ne.mpr c9
                  have c9b1 : (((rd_T70 l0 x8_1).f3) != 0) = true := bne_iff_ne.mpr c9
                  obtain rfl := Option.some.inj H
                  have hcz11_0 : w6.cell? ⟨gb323, 0, none⟩ = some (.int .i64 0) := (blk_cell BK323.out 0).trans rfl
                  have hcz11_1 : w6.cell? ⟨gb323, 1, none⟩ = some (.int .i64 0) := (blk_cell BK323.out 1).trans rfl
                  have hcz11_2 : w6.cell? ⟨gb323, 2, none⟩ = some (.string (⟨#[]⟩ : ByteArray)) := (blk_cell BK323.out 2).trans rfl
                  have hcz11_3 : w6.cell? ⟨gb323, 3, none⟩ = some (.int .i64 0) := (blk_cell BK323.out 3).trans rfl
                  have hfz11_0 := blk_frozen BK323.out 0
                  have hfz11_1 := blk_frozen BK323.out 1
                  have hfz11_2 := blk_frozen BK323.out 2
                  have hfz11_3 := blk_frozen BK323.out 3
                  go_wp2
                  go_ret
                  exact ⟨by first | rfl | (simp [errW_none, errW_some] <;> rfl) | (simp [*, errW_none, errW_some] <;> rfl), by repeat (first | (with_reducible first | exact HB.out | apply below_alloc | apply pw_below_drewN | apply below_drew1 | refine below_set ?_ GE323.out) | exact HB.out)⟩
              · rw [if_neg c8] at H
                have c8b0 : (((rd_T70 l0 x8_1).f0) == 1) = false := beq_eq_false_iff_ne.mpr c8
                have c8b1 : (((rd_T70 l0 x8_1).f0) != 1) = true := bne_iff_ne.mpr c8
                (first | rw [c8b0] | rw [c8b1] | (simp only [i64_w, i32_w]; rw [c8b0]) | skip)
                have H' := Aside0.mk H
                clear H
                go_wp2
                go_meet
                case rel => exact ⟨_, (x3_1), (by first | rfl | (simp; done) | (simp [*]; done)), H', ⟨by have := HK1.out; first | omega | exact Nat.le_refl _⟩, ⟨by (with_reducible repeat (first | refine blk_drewN ?_ _ | refine blk_drew ?_ | refine blk_alloc ?_ _)); refine blk_put (cs := #[.int .i64 ((rd_T70 l0 x8_1).f0), .int .i64 ((rd_T70 l0 x8_1).f1), .string ((rd_T70 l0 x8_1).f2), .int .i64 0]) ?_ 3 _ rfl; (with_reducible repeat (first | refine blk_drewN ?_ _ | refine blk_drew ?_ | refine blk_alloc ?_ _)); refine blk_put (cs := #[.int .i64 ((rd_T70 l0 x8_1).f0), .int .i64 ((rd_T70 l0 x8_1).f1), .string (⟨#[]⟩ : ByteArray), .int .i64 0]) ?_ 2 _ rfl; (with_reducible repeat (first | refine blk_drewN ?_ _ | refine blk_drew ?_ | refine blk_alloc ?_ _)); refine blk_put (cs := #[.int .i64 ((rd_T70 l0 x8_1).f0), .int .i64 0, .string (⟨#[]⟩ : ByteArray), .int .i64 0]) ?_ 1 _ rfl; (with_reducible repeat (first | refine blk_drewN ?_ _ | refine blk_drew ?_ | refine blk_alloc ?_ _)); refine blk_put (cs := #[.int .i64 0, .int .i64 0, .string (⟨#[]⟩ : ByteArray), .int .i64 0]) ?_ 0 _ rfl; (with_reducible repeat (first | refine blk_drewN ?_ _ | refine blk_drew ?_ | refine blk_alloc ?_ _)); exact BK323.out⟩, ⟨by repeat (first | (with_reducible first | exact HB.out | apply below_alloc | apply pw_below_drewN | apply below_drew1 | refine below_set ?_ GE323.out) | exact HB.out)⟩⟩
            case rest =>
              clear HC5
              try clear c2
              try clear c2b0
              try clear p2
              try clear c3
              try clear c3b0
              try clear p3
              try clear q3
              try clear hx3
              try clear c4
              try clear c4b0
              try clear c5
              try clear c8
              try clear c8b0
              try clear c8b1
              try clear c9
              try clear c9b0
              try clear c9b1
              try clear hcz10_0
              try clear hcz10_1
              try clear hcz10_2
              try clear hcz10_3
              try clear hcz11_0
              try clear hcz11_1
              try clear hcz11_2
              try clear hcz11_3
              try clear hcz7_0
              try clear hcz7_1
              try clear hcz7_2
              try clear hcz7_3
              try clear hfz10_0
              try clear hfz10_1
              try clear hfz10_2
              try clear hfz10_3
              try clear hfz11_0
              try clear hfz11_1
              try clear hfz11_2
              try clear hfz11_3
              try clear hfz7_0
              try clear hfz7_1
              try clear hfz7_2
              try clear hfz7_3
              try clear hx322_0
              try clear hx322_1
              try clear hx322_2
              try clear hx322_3
              try clear p322
              try clear q322
              obtain ⟨kq, x3_4, rfl, HA, HJ4, BK323, HB⟩ := hcut
              cases kq with
              | zero => exact absurd HA.out (by simp [trace_Right.j1])
              | succ kj4 =>
                have H := HA.out
                clear HA
                simp only [trace_Right.j1] at H
                replace H := Option.bind_eq_some_iff.mp H
                obtain ⟨t324, A120, H⟩ := H
                replace H : (if t324 = true then (if ((rd_T70 l0 x8_1).f3) < x3_4 then (some false) else ((trace_Decides.f kj4 ((rd_T70 l0 x8_1).f0) ((rd_T70 l0 x8_1).f1) ((rd_T70 l0 x8_1).f2) ((rd_T70 l0 x8_1).f3)).bind fun t325 => (if t325 = true then (if x8_1 < (wrap64 ((l0.length : Int) - 1)) then (some false) else (trace_Right.l0 kj4 l0 ((rd_T70 l0 x8_1).f3) l0 (l0.length : Int) (wrap64 (x8_1 + 1)))) else (trace_Right.l0 kj4 l0 ((rd_T70 l0 x8_1).f3) l0 (l0.length : Int) (wrap64 (x8_1 + 1)))))) else (some false)) = some r := H
                have A12 := Aside0.mk A120
                clear A120
                by_cases c13 : t324 = true
                · subst c13
                  have H1 : (if ((rd_T70 l0 x8_1).f3) < x3_4 then (some false) else ((trace_Decides.f kj4 ((rd_T70 l0 x8_1).f0) ((rd_T70 l0 x8_1).f1) ((rd_T70 l0 x8_1).f2) ((rd_T70 l0 x8_1).f3)).bind fun t325 => (if t325 = true then (if x8_1 < (wrap64 ((l0.length : Int) - 1)) then (some false) else (trace_Right.l0 kj4 l0 ((rd_T70 l0 x8_1).f3) l0 (l0.length : Int) (wrap64 (x8_1 + 1)))) else (trace_Right.l0 kj4 l0 ((rd_T70 l0 x8_1).f3) l0 (l0.length : Int) (wrap64 (x8_1 + 1)))))) = some r := by rw [if_pos rfl] at H; exact H
                  clear H
                  have H := H1
                  clear H1
                  by_cases c14 : ((rd_T70 l0 x8_1).f3) < x3_4
                  · rw [if_pos c14] at H
                    have c14b0 : decide (((rd_T70 l0 x8_1).f3) < x3_4) = true := decide_eq_true c14
                    clear c14
                    obtain rfl := Option.some.inj H
                    have hcz15_0 : wc.cell? ⟨gb323, 0, none⟩ = some (.int .i64 ((rd_T70 l0 x8_1).f0)) := (blk_cell BK323.out 0).trans rfl
                    have hcz15_1 : wc.cell? ⟨gb323, 1, none⟩ = some (.int .i64 ((rd_T70 l0 x8_1).f1)) := (blk_cell BK323.out 1).trans rfl
                    have hcz15_2 : wc.cell? ⟨gb323, 2, none⟩ = some (.string ((rd_T70 l0 x8_1).f2)) := (blk_cell BK323.out 2).trans rfl
                    have hcz15_3 : wc.cell? ⟨gb323, 3, none⟩ = some (.int .i64 ((rd_T70 l0 x8_1).f3)) := (blk_cell BK323.out 3).trans rfl
                    have hfz15_0 := blk_frozen BK323.out 0
                    have hfz15_1 := blk_frozen BK323.out 1
                    have hfz15_2 := blk_frozen BK323.out 2
                    have hfz15_3 := blk_frozen BK323.out 3
                    go_wp2_with (first | ((with_reducible refine gate_callee (f := 67) rfl ?_); refine goesL_ (some 20) rfl rfl Try.func67 (by kernel_rfl) rfl #[.agg #[.int .i64 ((rd_T70 l0 x8_1).f0), .int .i64 ((rd_T70 l0 x8_1).f1), .string ((rd_T70 l0 x8_1).f2), .int .i64 ((rd_T70 l0 x8_1).f3)]] rfl (by (try simp only [List.map_toArray, List.map_cons, List.map_nil]); first | done | rfl | (simp only [List.length_drop, List.length_take]; rfl)) ?_; (with_reducible refine (trace_right.calls kj4 ((rd_T70 l0 x8_1).f0) ((rd_T70 l0 x8_1).f1) ((rd_T70 l0 x8_1).f2) ((rd_T70 l0 x8_1).f3) true _ A12.out).mono ?_); rintro e w16 ⟨rfl, hb⟩; refine ⟨_, rfl, ?_⟩; have n0_ := Aside0.mk (blk_below (g := gb323) (o := .cells #[.int .i64 ((rd_T70 l0 x8_1).f0), .int .i64 ((rd_T70 l0 x8_1).f1), .string ((rd_T70 l0 x8_1).f2), .int .i64 ((rd_T70 l0 x8_1).f3)] 70 (0, 0)) (by (with_reducible repeat (first | refine blk_drewN ?_ _ | refine blk_drew ?_ | refine blk_alloc ?_ _)); exact BK323.out) hb); have n1_ := Aside0.mk (below_step (by repeat (first | (with_reducible first | exact HB.out | apply below_alloc | apply pw_below_drewN | apply below_drew1 | refine below_set ?_ GE323.out) | exact HB.out)) hb); clear BK323; clear HB; have BK323 := n0_; have HB := n1_; clear n0_ n1_; (try clear hb); (try clear hb2); (try clear hk); (try clear hi); have hcz17_0 : w16.cell? ⟨gb323, 0, none⟩ = some (.int .i64 ((rd_T70 l0 x8_1).f0)) := (blk_cell BK323.out 0).trans rfl; have hcz17_1 : w16.cell? ⟨gb323, 1, none⟩ = some (.int .i64 ((rd_T70 l0 x8_1).f1)) := (blk_cell BK323.out 1).trans rfl; have hcz17_2 : w16.cell? ⟨gb323, 2, none⟩ = some (.string ((rd_T70 l0 x8_1).f2)) := (blk_cell BK323.out 2).trans rfl; have hcz17_3 : w16.cell? ⟨gb323, 3, none⟩ = some (.int .i64 ((rd_T70 l0 x8_1).f3)) := (blk_cell BK323.out 3).trans rfl; have hfz17_0 := blk_frozen BK323.out 0; have hfz17_1 := blk_frozen BK323.out 1; have hfz17_2 := blk_frozen BK323.out 2; have hfz17_3 := blk_frozen BK323.out 3))
                    go_ret
                    exact ⟨by first | rfl | (simp [errW_none, errW_some] <;> rfl) | (simp [*, errW_none, errW_some] <;> rfl), by repeat (first | (with_reducible first | exact HB.out | apply below_alloc | apply pw_below_drewN | apply below_drew1 | refine below_set ?_ GE323.out) | exact HB.out)⟩
                  · rw [if_neg c14] at H
                    have c14b0 : decide (((rd_T70 l0 x8_1).f3) < x3_4) = false := decide_eq_false c14
                    clear c14
                    replace H := Option.bind_eq_some_iff.mp H
                    obtain ⟨t325, A180, H⟩ := H
                    replace H : (if t325 = true then (if x8_1 < (wrap64 ((l0.length : Int) - 1)) then (some false) else (trace_Right.l0 kj4 l0 ((rd_T70 l0 x8_1).f3) l0 (l0.length : Int) (wrap64 (x8_1 + 1)))) else (trace_Right.l0 kj4 l0 ((rd_T70 l0 x8_1).f3) l0 (l0.length : Int) (wrap64 (x8_1 + 1)))) = some r := H
                    have A18 := Aside0.mk A180
                    clear A180
                    by_cases c19 : t325 = true
                    · subst c19
                      have H1 : (if x8_1 < (wrap64 ((l0.length : Int) - 1)) then (some false) else (trace_Right.l0 kj4 l0 ((rd_T70 l0 x8_1).f3) l0 (l0.length : Int) (wrap64 (x8_1 + 1)))) = some r := by rw [if_pos rfl] at H; exact H
                      clear H
                      have H := H1
                      clear H1
                      by_cases c20 : x8_1 < (wrap64 ((l0.length : Int) - 1))
                      · rw [if_pos c20] at H
                        have c20b0 : decide (x8_1 < (wrap64 ((l0.length : Int) - 1))) = true := decide_eq_true c20
                        clear c20
                        obtain rfl := Option.some.inj H
                        have hcz21_0 : wc.cell? ⟨gb323, 0, none⟩ = some (.int .i64 ((rd_T70 l0 x8_1).f0)) := (blk_cell BK323.out 0).trans rfl
                        have hcz21_1 : wc.cell? ⟨gb323, 1, none⟩ = some (.int .i64 ((rd_T70 l0 x8_1).f1)) := (blk_cell BK323.out 1).trans rfl
                        have hcz21_2 : wc.cell? ⟨gb323, 2, none⟩ = some (.string ((rd_T70 l0 x8_1).f2)) := (blk_cell BK323.out 2).trans rfl
                        have hcz21_3 : wc.cell? ⟨gb323, 3, none⟩ = some (.int .i64 ((rd_T70 l0 x8_1).f3)) := (blk_cell BK323.out 3).trans rfl
                        have hfz21_0 := blk_frozen BK323.out 0
                        have hfz21_1 := blk_frozen BK323.out 1
                        have hfz21_2 := blk_frozen BK323.out 2
                        have hfz21_3 := blk_frozen BK323.out 3
                        go_wp2_with (first | ((with_reducible refine gate_callee (f := 67) rfl ?_); refine goesL_ (some 20) rfl rfl Try.func67 (by kernel_rfl) rfl #[.agg #[.int .i64 ((rd_T70 l0 x8_1).f0), .int .i64 ((rd_T70 l0 x8_1).f1), .string ((rd_T70 l0 x8_1).f2), .int .i64 ((rd_T70 l0 x8_1).f3)]] rfl (by (try simp only [List.map_toArray, List.map_cons, List.map_nil]); first | done | rfl | (simp only [List.length_drop, List.length_take]; rfl)) ?_; (with_reducible refine (trace_right.calls kj4 ((rd_T70 l0 x8_1).f0) ((rd_T70 l0 x8_1).f1) ((rd_T70 l0 x8_1).f2) ((rd_T70 l0 x8_1).f3) true _ A12.out).mono ?_); rintro e w22 ⟨rfl, hb⟩; refine ⟨_, rfl, ?_⟩; have n0_ := Aside0.mk (blk_below (g := gb323) (o := .cells #[.int .i64 ((rd_T70 l0 x8_1).f0), .int .i64 ((rd_T70 l0 x8_1).f1), .string ((rd_T70 l0 x8_1).f2), .int .i64 ((rd_T70 l0 x8_1).f3)] 70 (0, 0)) (by (with_reducible repeat (first | refine blk_drewN ?_ _ | refine blk_drew ?_ | refine blk_alloc ?_ _)); exact BK323.out) hb); have n1_ := Aside0.mk (below_step (by repeat (first | (with_reducible first | exact HB.out | apply below_alloc | apply pw_below_drewN | apply below_drew1 | refine below_set ?_ GE323.out) | exact HB.out)) hb); clear BK323; clear HB; have BK323 := n0_; have HB := n1_; clear n0_ n1_; (try clear hb); (try clear hb2); (try clear hk); (try clear hi); have hcz23_0 : w22.cell? ⟨gb323, 0, none⟩ = some (.int .i64 ((rd_T70 l0 x8_1).f0)) := (blk_cell BK323.out 0).trans rfl; have hcz23_1 : w22.cell? ⟨gb323, 1, none⟩ = some (.int .i64 ((rd_T70 l0 x8_1).f1)) := (blk_cell BK323.out 1).trans rfl; have hcz23_2 : w22.cell? ⟨gb323, 2, none⟩ = some (.string ((rd_T70 l0 x8_1).f2)) := (blk_cell BK323.out 2).trans rfl; have hcz23_3 : w22.cell? ⟨gb323, 3, none⟩ = some (.int .i64 ((rd_T70 l0 x8_1).f3)) := (blk_cell BK323.out 3).trans rfl; have hfz23_0 := blk_frozen BK323.out 0; have hfz23_1 := blk_frozen BK323.out 1; have hfz23_2 := blk_frozen BK323.out 2; have hfz23_3 := blk_frozen BK323.out 3) | (go_at_call 51; (with_reducible refine (trace_Decides.calls kj4 ((rd_T70 l0 x8_1).f0) ((rd_T70 l0 x8_1).f1) ((rd_T70 l0 x8_1).f2) ((rd_T70 l0 x8_1).f3) true _ A18.out).mono ?_); rintro e w24 ⟨rfl, hb⟩; have n0_ := Aside0.mk (blk_below (g := gb323) (o := .cells #[.int .i64 ((rd_T70 l0 x8_1).f0), .int .i64 ((rd_T70 l0 x8_1).f1), .string ((rd_T70 l0 x8_1).f2), .int .i64 ((rd_T70 l0 x8_1).f3)] 70 (0, 0)) (by (with_reducible repeat (first | refine blk_drewN ?_ _ | refine blk_drew ?_ | refine blk_alloc ?_ _)); exact BK323.out) hb); have n1_ := Aside0.mk (below_step (by repeat (first | (with_reducible first | exact HB.out | apply below_alloc | apply pw_below_drewN | apply below_drew1 | refine below_set ?_ GE323.out) | exact HB.out)) hb); clear BK323; clear HB; have BK323 := n0_; have HB := n1_; clear n0_ n1_; (try clear hb); (try clear hb2); (try clear hk); (try clear hi)))
                        go_ret
                        exact ⟨by first | rfl | (simp [errW_none, errW_some] <;> rfl) | (simp [*, errW_none, errW_some] <;> rfl), by repeat (first | (with_reducible first | exact HB.out | apply below_alloc | apply pw_below_drewN | apply below_drew1 | refine below_set ?_ GE323.out) | exact HB.out)⟩
                      · rw [if_neg c20] at H
                        have c20b0 : decide (x8_1 < (wrap64 ((l0.length : Int) - 1))) = false := decide_eq_false c20
                        clear c20
                        have H' := Aside0.mk H
                        clear H
                        have hcz25_0 : wc.cell? ⟨gb323, 0, none⟩ = some (.int .i64 ((rd_T70 l0 x8_1).f0)) := (blk_cell BK323.out 0).trans rfl
                        have hcz25_1 : wc.cell? ⟨gb323, 1, none⟩ = some (.int .i64 ((rd_T70 l0 x8_1).f1)) := (blk_cell BK323.out 1).trans rfl
                        have hcz25_2 : wc.cell? ⟨gb323, 2, none⟩ = some (.string ((rd_T70 l0 x8_1).f2)) := (blk_cell BK323.out 2).trans rfl
                        have hcz25_3 : wc.cell? ⟨gb323, 3, none⟩ = some (.int .i64 ((rd_T70 l0 x8_1).f3)) := (blk_cell BK323.out 3).trans rfl
                        have hfz25_0 := blk_frozen BK323.out 0
                        have hfz25_1 := blk_frozen BK323.out 1
                        have hfz25_2 := blk_frozen BK323.out 2
                        have hfz25_3 := blk_frozen BK323.out 3
                        go_wp2_with (first | ((with_reducible refine gate_callee (f := 67) rfl ?_); refine goesL_ (some 20) rfl rfl Try.func67 (by kernel_rfl) rfl #[.agg #[.int .i64 ((rd_T70 l0 x8_1).f0), .int .i64 ((rd_T70 l0 x8_1).f1), .string ((rd_T70 l0 x8_1).f2), .int .i64 ((rd_T70 l0 x8_1).f3)]] rfl (by (try simp only [List.map_toArray, List.map_cons, List.map_nil]); first | done | rfl | (simp only [List.length_drop, List.length_take]; rfl)) ?_; (with_reducible refine (trace_right.calls kj4 ((rd_T70 l0 x8_1).f0) ((rd_T70 l0 x8_1).f1) ((rd_T70 l0 x8_1).f2) ((rd_T70 l0 x8_1).f3) true _ A12.out).mono ?_); rintro e w26 ⟨rfl, hb⟩; refine ⟨_, rfl, ?_⟩; have n0_ := Aside0.mk (blk_below (g := gb323) (o := .cells #[.int .i64 ((rd_T70 l0 x8_1).f0), .int .i64 ((rd_T70 l0 x8_1).f1), .string ((rd_T70 l0 x8_1).f2), .int .i64 ((rd_T70 l0 x8_1).f3)] 70 (0, 0)) (by (with_reducible repeat (first | refine blk_drewN ?_ _ | refine blk_drew ?_ | refine blk_alloc ?_ _)); exact BK323.out) hb); have n1_ := Aside0.mk (below_step (by repeat (first | (with_reducible first | exact HB.out | apply below_alloc | apply pw_below_drewN | apply below_drew1 | refine below_set ?_ GE323.out) | exact HB.out)) hb); clear BK323; clear HB; have BK323 := n0_; have HB := n1_; clear n0_ n1_; (try clear hb); (try clear hb2); (try clear hk); (try clear hi); have hcz27_0 : w26.cell? ⟨gb323, 0, none⟩ = some (.int .i64 ((rd_T70 l0 x8_1).f0)) := (blk_cell BK323.out 0).trans rfl; have hcz27_1 : w26.cell? ⟨gb323, 1, none⟩ = some (.int .i64 ((rd_T70 l0 x8_1).f1)) := (blk_cell BK323.out 1).trans rfl; have hcz27_2 : w26.cell? ⟨gb323, 2, none⟩ = some (.string ((rd_T70 l0 x8_1).f2)) := (blk_cell BK323.out 2).trans rfl; have hcz27_3 : w26.cell? ⟨gb323, 3, none⟩ = some (.int .i64 ((rd_T70 l0 x8_1).f3)) := (blk_cell BK323.out 3).trans rfl; have hfz27_0 := blk_frozen BK323.out 0; have hfz27_1 := blk_frozen BK323.out 1; have hfz27_2 := blk_frozen BK323.out 2; have hfz27_3 := blk_frozen BK323.out 3) | (go_at_call 51; (with_reducible refine (trace_Decides.calls kj4 ((rd_T70 l0 x8_1).f0) ((rd_T70 l0 x8_1).f1) ((rd_T70 l0 x8_1).f2) ((rd_T70 l0 x8_1).f3) true _ A18.out).mono ?_); rintro e w28 ⟨rfl, hb⟩; have n0_ := Aside0.mk (blk_below (g := gb323) (o := .cells #[.int .i64 ((rd_T70 l0 x8_1).f0), .int .i64 ((rd_T70 l0 x8_1).f1), .string ((rd_T70 l0 x8_1).f2), .int .i64 ((rd_T70 l0 x8_1).f3)] 70 (0, 0)) (by (with_reducible repeat (first | refine blk_drewN ?_ _ | refine blk_drew ?_ | refine blk_alloc ?_ _)); exact BK323.out) hb); have n1_ := Aside0.mk (below_step (by repeat (first | (with_reducible first | exact HB.out | apply below_alloc | apply pw_below_drewN | apply below_drew1 | refine below_set ?_ GE323.out) | exact HB.out)) hb); clear BK323; clear HB; have BK323 := n0_; have HB := n1_; clear n0_ n1_; (try clear hb); (try clear hb2); (try clear hk); (try clear hi); have hcz29_0 : w28.cell? ⟨gb323, 0, none⟩ = some (.int .i64 ((rd_T70 l0 x8_1).f0)) := (blk_cell BK323.out 0).trans rfl; have hcz29_1 : w28.cell? ⟨gb323, 1, none⟩ = some (.int .i64 ((rd_T70 l0 x8_1).f1)) := (blk_cell BK323.out 1).trans rfl; have hcz29_2 : w28.cell? ⟨gb323, 2, none⟩ = some (.string ((rd_T70 l0 x8_1).f2)) := (blk_cell BK323.out 2).trans rfl; have hcz29_3 : w28.cell? ⟨gb323, 3, none⟩ = some (.int .i64 ((rd_T70 l0 x8_1).f3)) := (blk_cell BK323.out 3).trans rfl; have hfz29_0 := blk_frozen BK323.out 0; have hfz29_1 := blk_frozen BK323.out 1; have hfz29_2 := blk_frozen BK323.out 2; have hfz29_3 := blk_frozen BK323.out 3))
                        go_roundg kj4
                        case measure => have := HK1.out; have := HJ4.out; omega
                        case rel => exact ⟨(((rd_T70 l0 x8_1).f3)), (wrap64 (x8_1 + 1)), (by first | rfl | (simp; done) | (simp [*]; done)), (by first | rfl | (simp; done) | (simp [*]; done)), H', ⟨by have := HK1.out; have := HJ4.out; omega⟩, ⟨by repeat (first | (with_reducible first | exact HB.out | apply below_alloc | apply pw_below_drewN | apply below_drew1 | refine below_set ?_ GE323.out) | exact HB.out)⟩⟩
                    · replace c19 := Bool.eq_false_iff.mpr c19
                      subst c19
                      have H1 : (trace_Right.l0 kj4 l0 ((rd_T70 l0 x8_1).f3) l0 (l0.length : Int) (wrap64 (x8_1 + 1))) = some r := by rw [if_neg (show ¬ (false = true) by decide)] at H; exact H
                      clear H
                      have H := H1
                      clear H1
                      have H' := Aside0.mk H
                      clear H
                      have hcz30_0 : wc.cell? ⟨gb323, 0, none⟩ = some (.int .i64 ((rd_T70 l0 x8_1).f0)) := (blk_cell BK323.out 0).trans rfl
                      have hcz30_1 : wc.cell? ⟨gb323, 1, none⟩ = some (.int .i64 ((rd_T70 l0 x8_1).f1)) := (blk_cell BK323.out 1).trans rfl
                      have hcz30_2 : wc.cell? ⟨gb323, 2, none⟩ = some (.string ((rd_T70 l0 x8_1).f2)) := (blk_cell BK323.out 2).trans rfl
                      have hcz30_3 : wc.cell? ⟨gb323, 3, none⟩ = some (.int .i64 ((rd_T70 l0 x8_1).f3)) := (blk_cell BK323.out 3).trans rfl
                      have hfz30_0 := blk_frozen BK323.out 0
                      have hfz30_1 := blk_frozen BK323.out 1
                      have hfz30_2 := blk_frozen BK323.out 2
                      have hfz30_3 := blk_frozen BK323.out 3
                      go_wp2_with (first | ((with_reducible refine gate_callee (f := 67) rfl ?_); refine goesL_ (some 20) rfl rfl Try.func67 (by kernel_rfl) rfl #[.agg #[.int .i64 ((rd_T70 l0 x8_1).f0), .int .i64 ((rd_T70 l0 x8_1).f1), .string ((rd_T70 l0 x8_1).f2), .int .i64 ((rd_T70 l0 x8_1).f3)]] rfl (by (try simp only [List.map_toArray, List.map_cons, List.map_nil]); first | done | rfl | (simp only [List.length_drop, List.length_take]; rfl)) ?_; (with_reducible refine (trace_right.calls kj4 ((rd_T70 l0 x8_1).f0) ((rd_T70 l0 x8_1).f1) ((rd_T70 l0 x8_1).f2) ((rd_T70 l0 x8_1).f3) true _ A12.out).mono ?_); rintro e w31 ⟨rfl, hb⟩; refine ⟨_, rfl, ?_⟩; have n0_ := Aside0.mk (blk_below (g := gb323) (o := .cells #[.int .i64 ((rd_T70 l0 x8_1).f0), .int .i64 ((rd_T70 l0 x8_1).f1), .string ((rd_T70 l0 x8_1).f2), .int .i64 ((rd_T70 l0 x8_1).f3)] 70 (0, 0)) (by (with_reducible repeat (first | refine blk_drewN ?_ _ | refine blk_drew ?_ | refine blk_alloc ?_ _)); exact BK323.out) hb); have n1_ := Aside0.mk (below_step (by repeat (first | (with_reducible first | exact HB.out | apply below_alloc | apply pw_below_drewN | apply below_drew1 | refine below_set ?_ GE323.out) | exact HB.out)) hb); clear BK323; clear HB; have BK323 := n0_; have HB := n1_; clear n0_ n1_; (try clear hb); (try clear hb2); (try clear hk); (try clear hi); have hcz32_0 : w31.cell? ⟨gb323, 0, none⟩ = some (.int .i64 ((rd_T70 l0 x8_1).f0)) := (blk_cell BK323.out 0).trans rfl; have hcz32_1 : w31.cell? ⟨gb323, 1, none⟩ = some (.int .i64 ((rd_T70 l0 x8_1).f1)) := (blk_cell BK323.out 1).trans rfl; have hcz32_2 : w31.cell? ⟨gb323, 2, none⟩ = some (.string ((rd_T70 l0 x8_1).f2)) := (blk_cell BK323.out 2).trans rfl; have hcz32_3 : w31.cell? ⟨gb323, 3, none⟩ = some (.int .i64 ((rd_T70 l0 x8_1).f3)) := (blk_cell BK323.out 3).trans rfl; have hfz32_0 := blk_frozen BK323.out 0; have hfz32_1 := blk_frozen BK323.out 1; have hfz32_2 := blk_frozen BK323.out 2; have hfz32_3 := blk_frozen BK323.out 3) | (go_at_call 51; (with_reducible refine (trace_Decides.calls kj4 ((rd_T70 l0 x8_1).f0) ((rd_T70 l0 x8_1).f1) ((rd_T70 l0 x8_1).f2) ((rd_T70 l0 x8_1).f3) false _ A18.out).mono ?_); rintro e w33 ⟨rfl, hb⟩; have n0_ := Aside0.mk (blk_below (g := gb323) (o := .cells #[.int .i64 ((rd_T70 l0 x8_1).f0), .int .i64 ((rd_T70 l0 x8_1).f1), .string ((rd_T70 l0 x8_1).f2), .int .i64 ((rd_T70 l0 x8_1).f3)] 70 (0, 0)) (by (with_reducible repeat (first | refine blk_drewN ?_ _ | refine blk_drew ?_ | refine blk_alloc ?_ _)); exact BK323.out) hb); have n1_ := Aside0.mk (below_step (by repeat (first | (with_reducible first | exact HB.out | apply below_alloc | apply pw_below_drewN | apply below_drew1 | refine below_set ?_ GE323.out) | exact HB.out)) hb); clear BK323; clear HB; have BK323 := n0_; have HB := n1_; clear n0_ n1_; (try clear hb); (try clear hb2); (try clear hk); (try clear hi); have hcz34_0 : w33.cell? ⟨gb323, 0, none⟩ = some (.int .i64 ((rd_T70 l0 x8_1).f0)) := (blk_cell BK323.out 0).trans rfl; have hcz34_1 : w33.cell? ⟨gb323, 1, none⟩ = some (.int .i64 ((rd_T70 l0 x8_1).f1)) := (blk_cell BK323.out 1).trans rfl; have hcz34_2 : w33.cell? ⟨gb323, 2, none⟩ = some (.string ((rd_T70 l0 x8_1).f2)) := (blk_cell BK323.out 2).trans rfl; have hcz34_3 : w33.cell? ⟨gb323, 3, none⟩ = some (.int .i64 ((rd_T70 l0 x8_1).f3)) := (blk_cell BK323.out 3).trans rfl; have hfz34_0 := blk_frozen BK323.out 0; have hfz34_1 := blk_frozen BK323.out 1; have hfz34_2 := blk_frozen BK323.out 2; have hfz34_3 := blk_frozen BK323.out 3))
                      go_roundg kj4
                      case measure => have := HK1.out; have := HJ4.out; omega
                      case rel => exact ⟨(((rd_T70 l0 x8_1).f3)), (wrap64 (x8_1 + 1)), (by first | rfl | (simp; done) | (simp [*]; done)), (by first | rfl | (simp; done) | (simp [*]; done)), H', ⟨by have := HK1.out; have := HJ4.out; omega⟩, ⟨by repeat (first | (with_reducible first | exact HB.out | apply below_alloc | apply pw_below_drewN | apply below_drew1 | refine below_set ?_ GE323.out) | exact HB.out)⟩⟩
                · replace c13 := Bool.eq_false_iff.mpr c13
                  subst c13
                  have H1 : (some false) = some r := by rw [if_neg (show ¬ (false = true) by decide)] at H; exact H
                  clear H
                  have H := H1
                  clear H1
                  obtain rfl := Option.some.inj H
                  have hcz35_0 : wc.cell? ⟨gb323, 0, none⟩ = some (.int .i64 ((rd_T70 l0 x8_1).f0)) := (blk_cell BK323.out 0).trans rfl
                  have hcz35_1 : wc.cell? ⟨gb323, 1, none⟩ = some (.int .i64 ((rd_T70 l0 x8_1).f1)) := (blk_cell BK323.out 1).trans rfl
                  have hcz35_2 : wc.cell? ⟨gb323, 2, none⟩ = some (.string ((rd_T70 l0 x8_1).f2)) := (blk_cell BK323.out 2).trans rfl
                  have hcz35_3 : wc.cell? ⟨gb323, 3, none⟩ = some (.int .i64 ((rd_T70 l0 x8_1).f3)) := (blk_cell BK323.out 3).trans rfl
                  have hfz35_0 := blk_frozen BK323.out 0
                  have hfz35_1 := blk_frozen BK323.out 1
                  have hfz35_2 := blk_frozen BK323.out 2
                  have hfz35_3 := blk_frozen BK323.out 3
                  go_wp2_with (first | ((with_reducible refine gate_callee (f := 67) rfl ?_); refine goesL_ (some 20) rfl rfl Try.func67 (by kernel_rfl) rfl #[.agg #[.int .i64 ((rd_T70 l0 x8_1).f0), .int .i64 ((rd_T70 l0 x8_1).f1), .string ((rd_T70 l0 x8_1).f2), .int .i64 ((rd_T70 l0 x8_1).f3)]] rfl (by (try simp only [List.map_toArray, List.map_cons, List.map_nil]); first | done | rfl | (simp only [List.length_drop, List.length_take]; rfl)) ?_; (with_reducible refine (trace_right.calls kj4 ((rd_T70 l0 x8_1).f0) ((rd_T70 l0 x8_1).f1) ((rd_T70 l0 x8_1).f2) ((rd_T70 l0 x8_1).f3) false _ A12.out).mono ?_); rintro e w36 ⟨rfl, hb⟩; refine ⟨_, rfl, ?_⟩; have n0_ := Aside0.mk (blk_below (g := gb323) (o := .cells #[.int .i64 ((rd_T70 l0 x8_1).f0), .int .i64 ((rd_T70 l0 x8_1).f1), .string ((rd_T70 l0 x8_1).f2), .int .i64 ((rd_T70 l0 x8_1).f3)] 70 (0, 0)) (by (with_reducible repeat (first | refine blk_drewN ?_ _ | refine blk_drew ?_ | refine blk_alloc ?_ _)); exact BK323.out) hb); have n1_ := Aside0.mk (below_step (by repeat (first | (with_reducible first | exact HB.out | apply below_alloc | apply pw_below_drewN | apply below_drew1 | refine below_set ?_ GE323.out) | exact HB.out)) hb); clear BK323; clear HB; have BK323 := n0_; have HB := n1_; clear n0_ n1_; (try clear hb); (try clear hb2); (try clear hk); (try clear hi)))
                  go_ret
                  exact ⟨by first | rfl | (simp [errW_none, errW_some] <;> rfl) | (simp [*, errW_none, errW_some] <;> rfl), by repeat (first | (with_reducible first | exact HB.out | apply below_alloc | apply pw_below_drewN | apply below_drew1 | refine below_set ?_ GE323.out) | exact HB.out)⟩
          · rw [if_neg c4] at H
            exact absurd H (by simp)
        · rw [if_neg c3] at H
          exact absurd H (by simp)
      · rw [if_neg c2] at H
        have c2b0 : decide (x8_1 < (l0.length : Int)) = false := decide_eq_false c2
        clear c2
        obtain rfl := Option.some.inj H
        go_wp2
        go_ret
        exact ⟨by first | rfl | (simp [errW_none, errW_some] <;> rfl) | (simp [*, errW_none, errW_some] <;> rfl), by repeat (first | (with_reducible first | exact HB.out | apply below_alloc | apply pw_below_drewN | apply below_drew1) | exact HB.out)⟩

end Go.Proofs.Ytmlemnfleicnfaa.PA
