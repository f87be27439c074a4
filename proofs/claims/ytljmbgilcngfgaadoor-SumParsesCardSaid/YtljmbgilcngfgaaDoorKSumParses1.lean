/- What this claim uses of this session's own texts, put together by a program: PAx86 HNames HFlat HSumM HSumC HShort GCountE HStr GTotals GLines GNamed GLine. -/
import Derived.Test.YtljmbgilcngfgaaDoorKSumParses0
import Derived.Test.YtljmbgilcngfgaaDoorProg
import Derived.Test.YtljmbgilcngfgaaDoorRows
import Derived.Test.YtljmbgilcngfgaaDoorCards
import Derived.Test.YtljmbgilcngfgaaDoorTie
namespace Go.Proofs.YtljmbgilcngfgaaDoor.PA
open Go.RowKit Go.Proofs.YtljmbgilcngfgaaDoorW.PrintWords Go.Proofs.YtljmbgilcngfgaaDoorW.PrintLast Go.Proofs.YtljmbgilcngfgaaDoorW.PrintMore
set_option linter.unusedVariables false
set_option linter.unusedSimpArgs false
set_option maxRecDepth 100000
set_option maxHeartbeats 8000000
section
attribute [local go_sem] max2_int min2_int max_two min_two max_three min_three max_four min_four   -- for this text's walks alone
mutual
def colloquyref02_Read.l0 : Nat → ByteArray → List Int → Int → Option (ByteArray × Bool)
  | 0, _, _, _ => none
  | k + 1, x0, x4, x5 => if x5 < (x0.size : Int) then (if 0 ≤ x5 then (if (bt x0 x5) = 92 then (if (wrap64 (x5 + 3)) > (x0.size : Int) then (colloquyref02_Read.j1 k x0 x4 x5 true) else (if 0 ≤ (wrap64 (x5 + 1)) then (if (wrap64 (x5 + 1)) < (x0.size : Int) then ((colloquyref02_unhex.f k (bt x0 (wrap64 (x5 + 1)))).bind fun t297 => (if t297 < 0 then (colloquyref02_Read.j1 k x0 x4 x5 true) else (if 0 ≤ (wrap64 (x5 + 2)) then (if (wrap64 (x5 + 2)) < (x0.size : Int) then ((colloquyref02_unhex.f k (bt x0 (wrap64 (x5 + 2)))).bind fun t298 => (colloquyref02_Read.j1 k x0 x4 x5 (decide (t298 < 0)))) else (none)) else (none)))) else (none)) else (none))) else (if x4.length < 140737488355328 then (colloquyref02_Read.l0 k x0 (x4 ++ [bt x0 x5]) (wrap64 (x5 + 1))) else (none))) else (none)) else ((colloquyref02_Right.f (strOfNums x4)).bind fun t304 => (if t304 = true then ((colloquyref02_Write.f k (strOfNums x4)).bind fun t305 => (if t305.toList = x0.toList then (some (strOfNums x4, true)) else (some ((⟨#[]⟩ : ByteArray), false)))) else (some ((⟨#[]⟩ : ByteArray), false))))
def colloquyref02_Read.j1 : Nat → ByteArray → List Int → Int → Bool → Option (ByteArray × Bool)
  | 0, _, _, _, _ => none
  | k + 1, x0, x4, x5, x43 => if x43 = true then (some ((⟨#[]⟩ : ByteArray), false)) else (if 0 ≤ (wrap64 (x5 + 1)) then (if (wrap64 (x5 + 1)) < (x0.size : Int) then ((colloquyref02_unhex.f k (bt x0 (wrap64 (x5 + 1)))).bind fun t299 => (if 0 ≤ (wrap64 (x5 + 2)) then (if (wrap64 (x5 + 2)) < (x0.size : Int) then ((colloquyref02_unhex.f k (bt x0 (wrap64 (x5 + 2)))).bind fun t300 => (if x4.length < 140737488355328 then (colloquyref02_Read.l0 k x0 (x4 ++ [(wrap64 ((wrap64 (16 * t299)) + t300)) % 256]) (wrap64 (x5 + 3))) else (none))) else (none)) else (none))) else (none)) else (none))
end
def colloquyref02_Read.f (k : Nat) (a0 : ByteArray) : Option (ByteArray × Bool) := colloquyref02_Read.l0 k a0 (([] : List Int)) 0
theorem colloquyref02_Read.mono_l : ∀ k, (∀ y0 y1 y2, LeO (colloquyref02_Read.l0 k y0 y1 y2) (colloquyref02_Read.l0 (k + 1) y0 y1 y2)) ∧ (∀ y0 y1 y2 y3, LeO (colloquyref02_Read.j1 k y0 y1 y2 y3) (colloquyref02_Read.j1 (k + 1) y0 y1 y2 y3))
  | 0 => ⟨fun _ _ _ r h => by simp [colloquyref02_Read.l0] at h, fun _ _ _ _ r h => by simp [colloquyref02_Read.j1] at h⟩
  | k + 1 => by
    obtain ⟨ih0, ih1⟩ := colloquyref02_Read.mono_l k
    refine ⟨?_, ?_⟩
    · intro y0 y1 y2
      unfold colloquyref02_Read.l0
      repeat' first
      | (with_reducible exact ih0 _ _ _)
      | (with_reducible exact ih1 _ _ _ _)
      | (with_reducible exact colloquyref02_Write.mono _ _)
      | (with_reducible exact colloquyref02_unhex.mono _ _)
      | (with_reducible exact LeO.refl _)
      | (with_reducible exact LeO.none _)
      | (with_reducible refine LeO.ite ?_ ?_)
      | (with_reducible refine LeO.bind ?_ (fun _ => ?_))
      | exact ih0 _ _ _
      | exact ih1 _ _ _ _
      | exact colloquyref02_Write.mono _ _
      | exact colloquyref02_unhex.mono _ _
      | exact LeO.none _
      | refine LeO.ite ?_ ?_
      | refine LeO.bind ?_ (fun _ => ?_)
    · intro y0 y1 y2 y3
      unfold colloquyref02_Read.j1
      repeat' first
      | (with_reducible exact ih0 _ _ _)
      | (with_reducible exact ih1 _ _ _ _)
      | (with_reducible exact colloquyref02_Write.mono _ _)
      | (with_reducible exact colloquyref02_unhex.mono _ _)
      | (with_reducible exact LeO.refl _)
      | (with_reducible exact LeO.none _)
      | (with_reducible refine LeO.ite ?_ ?_)
      | (with_reducible refine LeO.bind ?_ (fun _ => ?_))
      | exact ih0 _ _ _
      | exact ih1 _ _ _ _
      | exact colloquyref02_Write.mono _ _
      | exact colloquyref02_unhex.mono _ _
      | exact LeO.none _
      | refine LeO.ite ?_ ?_
      | refine LeO.bind ?_ (fun _ => ?_)
theorem colloquyref02_Read.mono : ∀ a0 k, LeO (colloquyref02_Read.f k a0) (colloquyref02_Read.f (k + 1) a0) := by
  intro a0 k
  obtain ⟨ih0, ih1⟩ := colloquyref02_Read.mono_l k
  unfold colloquyref02_Read.f
  repeat' first
      | (with_reducible exact ih0 _ _ _)
      | (with_reducible exact ih1 _ _ _ _)
      | (with_reducible exact colloquyref02_Write.mono _ _)
      | (with_reducible exact colloquyref02_unhex.mono _ _)
      | (with_reducible exact LeO.refl _)
      | (with_reducible exact LeO.none _)
      | (with_reducible refine LeO.ite ?_ ?_)
      | (with_reducible refine LeO.bind ?_ (fun _ => ?_))
      | exact ih0 _ _ _
      | exact ih1 _ _ _ _
      | exact colloquyref02_Write.mono _ _
      | exact colloquyref02_unhex.mono _ _
      | exact LeO.none _
      | refine LeO.ite ?_ ?_
      | refine LeO.bind ?_ (fun _ => ?_)
def colloquyref02_Read.T9 : Bool × List (List Nat × List Nat) := (true, [([], []), ([], []), ([], []), ([2], [2]), ([1, 3], [1, 3]), ([4], [4]), ([5], [5]), ([], []), ([], []), ([8], [8]), ([7, 9], [7, 9]), ([10, 5], [10]), ([6, 11], [6, 11]), ([12], [12]), ([13], [13]), ([0, 14, 11], [0, 14]), ([15, 15, 0, 1, 2, 3, 4, 5, 6, 7, 8, 9, 10, 11, 12, 13, 14, 15], [0, 15])])
def colloquyref02_Read.B9 : List Nat := [0, 0, 0, 4, 14, 30, 62, 0, 0, 256, 896, 1982, 4094, 8190, 16382, 32767, 65535]
theorem colloquyref02_Read.tab9 : rtab .any (opsOf Tryd.f55 9) = colloquyref02_Read.T9 := by kernel_rfl
theorem colloquyref02_Read.bits9 : waitsOk colloquyref02_Read.T9.2 colloquyref02_Read.B9 = true := by kernel_rfl
theorem colloquyref02_Read.calls (k : Nat) (a0 : ByteArray) (r1 : ByteArray) (r2 : Bool) (w : World) (h : colloquyref02_Read.f k a0 = some (r1, r2)) :
    Calls Tryd.prog 55 #[.string a0] w fun e w' => e = .returned (.tuple #[.string r1, .bool r2]) ∧ Below w.heap.size w w' := by
  have HB := Aside0.mk (Below.refl w.heap.size w)
  have H : (colloquyref02_Read.l0 k a0 (([] : List Int)) 0) = some (r1, r2) := h
  clear h
  obtain ⟨y291, hy291⟩ : ∃ y_ : List Int, y_ = (([] : List Int)) := ⟨_, rfl⟩
  replace H : (colloquyref02_Read.l0 k a0 y291 0) = some (r1, r2) := by first | (rw [hy291]; with_reducible exact H) | (have H2_ := (Option.bind_some _ _).symm.trans H; rw [hy291]; with_reducible exact H2_) | (have H2_ := (Option.bind_some _ _).symm.trans H; with_reducible exact H2_) | with_reducible exact H | (rw [hy291]; exact H) | exact H
  have Ny291 := Aside0.mk hy291
  clear hy291
  have H' := Aside0.mk H
  clear H
  go_enter Tryd.func55, Tryd.ntmps55
  go_wp2_with (first | ((with_reducible refine gate_dst (N := 6) rfl ?_); refine Kd.R_lit (Kd.int .u8) _ 5 ?hg (N := 6) ?hd (xs := ([] : List Int)) (inner := []) (ok := fun _ => True) (okp := fun _ => True) ?hr ?hp (fun _ hk => hk) trivial (Below.refl _ _) (Nat.le_refl _) (by simp) ?_; (case hd => rfl); (case hg => rfl); (case hr => first | (go_simp; done) | (go_simp; rfl)); (case hp => exact (Reps.none _ _)); intro v292 w2 ho3 hb hg_ hnew_; clear hg_ hnew_; (first | rw [← Ny291.out] at ho3 | (simp only [Int.reduceToNat] at ho3; rw [← Ny291.out] at ho3)); have n0_ := Aside0.mk (Kd.R_lower ho3 (below_size (by repeat (first | (with_reducible first | exact HB.out | apply below_alloc | apply pw_below_drewN | apply below_drew1) | exact HB.out)))); have n1_ := Aside0.mk (below_step (by repeat (first | (with_reducible first | exact HB.out | apply below_alloc | apply pw_below_drewN | apply below_drew1) | exact HB.out)) hb); clear HB; have HO293 := n0_; have HB := n1_; clear n0_ n1_; clear hb ho3))
  go_loopg [4, 5] k (fun kq v4 v5 w' => ∃ (x4_1 : List Int) (x5_1 : Int), v5 = .int .i64 x5_1 ∧ Aside0 (colloquyref02_Read.l0 kq a0 x4_1 x5_1 = some (r1, r2)) ∧ Aside0 (kq ≤ k) ∧ Aside0 (Kd.R (Kd.int .u8) 5 w' w.heap.size (fun _ => True) v4 x4_1) ∧ Aside0 (Below w.heap.size w w'))
  case atStart => exact ⟨(y291), (0), (by first | rfl | (simp; done) | (simp [*]; done)), H', ⟨Nat.le_refl _⟩, ⟨by (with_reducible repeat (first | apply Kd.R_alloc | apply Kd.R_drewN | apply Kd.R_drew)); exact HO293.out⟩, ⟨by repeat (first | (with_reducible first | exact HB.out | apply below_alloc | apply pw_below_drewN | apply below_drew1) | exact HB.out)⟩⟩
  case round =>
    clear H'
    try clear p2
    obtain ⟨x4_1, x5_1, rfl, HA, HK1, HO_4, HB⟩ := hrel
    cases gk with
    | zero => exact absurd HA.out (by simp [colloquyref02_Read.l0])
    | succ k1 =>
      have H := HA.out
      clear HA
      simp only [colloquyref02_Read.l0] at H
      by_cases c4 : x5_1 < (a0.size : Int)
      · rw [if_pos c4] at H
        have c4b0 : decide (x5_1 < (a0.size : Int)) = true := decide_eq_true c4
        clear c4
        by_cases c5 : 0 ≤ x5_1
        · rw [if_pos c5] at H
          have c5b0 : decide (0 ≤ x5_1) = true := decide_eq_true c5
          clear c5
          by_cases c7 : (bt a0 x5_1) = 92
          · rw [if_pos c7] at H
            have c7b0 : ((bt a0 x5_1) == 92) = true := beq_iff_eq.mpr c7
            have c7b1 : ((bt a0 x5_1) != 92) = false := bne_eq_false_iff_eq.mpr c7
            clear c7
            have HC8 := Aside0.mk H
            clear H
            have p6 : 0 ≤ (x5_1 : Int) := of_decide_eq_true (by first | (with_reducible assumption) | assumption)
            have q6 : x5_1 < (a0.size : Int) := of_decide_eq_true (by first | (with_reducible assumption) | assumption)
            have hx6 := bt_at a0 x5_1
            replace p6 := eq_true p6
            replace q6 := eq_true q6
            go_upto_region 7 with (fail)
            go_cut [43] (fun v43 wc => ∃ (kq : Nat) (x43_7 : Bool), v43 = .bool x43_7 ∧ Aside0 (colloquyref02_Read.j1 kq a0 x4_1 x5_1 x43_7 = some (r1, r2)) ∧ Aside0 (kq ≤ k1) ∧ Aside0 (Kd.R (Kd.int .u8) 5 wc w.heap.size (fun _ => True) u4 x4_1) ∧ Aside0 (Below w.heap.size w wc))
            case first =>
              have H := HC8.out
              clear HC8
              by_cases c9 : (wrap64 (x5_1 + 3)) > (a0.size : Int)
              · rw [if_pos c9] at H
                have c9b0 : decide ((a0.size : Int) < (wrap64 (x5_1 + 3))) = true := decide_eq_true c9
                clear c9
                (first | rw [c9b0] | rw [c9b1] | (simp only [i64_w, i32_w]; rw [c9b0]) | skip)
                have H' := Aside0.mk H
                clear H
                go_wp2
                go_meet
                case rel => exact ⟨_, (true), (by first | rfl | (simp; done) | (simp [*]; done)), H', ⟨by have := HK1.out; first | omega | exact Nat.le_refl _⟩, ⟨by (with_reducible repeat (first | apply Kd.R_alloc | apply Kd.R_drewN | apply Kd.R_drew)); exact HO_4.out⟩, ⟨by repeat (first | (with_reducible first | exact HB.out | apply below_alloc | apply pw_below_drewN | apply below_drew1) | exact HB.out)⟩⟩
              · rw [if_neg c9] at H
                have c9b0 : decide ((a0.size : Int) < (wrap64 (x5_1 + 3))) = false := decide_eq_false c9
                clear c9
                (first | rw [c9b0] | rw [c9b1] | (simp only [i64_w, i32_w]; rw [c9b0]) | skip)
                obtain ⟨ji10, hji10⟩ : ∃ j_ : Int, (wrap64 (x5_1 + 1)) = j_ := ⟨_, rfl⟩
                replace H : (if 0 ≤ (ji10) then (if (ji10) < (a0.size : Int) then ((colloquyref02_unhex.f k1 (bt a0 (ji10))).bind fun t297 => (if t297 < 0 then (colloquyref02_Read.j1 k1 a0 x4_1 x5_1 true) else (if 0 ≤ (wrap64 (x5_1 + 2)) then (if (wrap64 (x5_1 + 2)) < (a0.size : Int) then ((colloquyref02_unhex.f k1 (bt a0 (wrap64 (x5_1 + 2)))).bind fun t298 => (colloquyref02_Read.j1 k1 a0 x4_1 x5_1 (decide (t298 < 0)))) else (none)) else (none)))) else (none)) else (none)) = some (r1, r2) := by first | (rw [hji10] at H; exact H) | (simp only [hji10] at H ⊢; exact H)
                have hji10w : (IntKind.i64.wrap (x5_1 + 1)) = ji10 := (i64_w _).trans hji10
                by_cases c11 : 0 ≤ (ji10)
                · rw [if_pos c11] at H
                  have c11b0 : decide (0 ≤ (ji10)) = true := decide_eq_true c11
                  clear c11
                  by_cases c12 : (ji10) < (a0.size : Int)
                  · rw [if_pos c12] at H
                    have c12b0 : decide ((ji10) < (a0.size : Int)) = true := decide_eq_true c12
                    clear c12
                    replace H := Option.bind_eq_some_iff.mp H
                    obtain ⟨t297, A140, H⟩ := H
                    replace H : (if t297 < 0 then (colloquyref02_Read.j1 k1 a0 x4_1 x5_1 true) else (if 0 ≤ (wrap64 (x5_1 + 2)) then (if (wrap64 (x5_1 + 2)) < (a0.size : Int) then ((colloquyref02_unhex.f k1 (bt a0 (wrap64 (x5_1 + 2)))).bind fun t298 => (colloquyref02_Read.j1 k1 a0 x4_1 x5_1 (decide (t298 < 0)))) else (none)) else (none))) = some (r1, r2) := H
                    have A14 := Aside0.mk A140
                    clear A140
                    by_cases c15 : t297 < 0
                    · rw [if_pos c15] at H
                      have c15b0 : decide (t297 < 0) = true := decide_eq_true c15
                      clear c15
                      have H' := Aside0.mk H
                      clear H
                      have p13 : 0 ≤ ((ji10) : Int) := of_decide_eq_true (by first | (with_reducible assumption) | assumption)
                      have q13 : (ji10) < (a0.size : Int) := of_decide_eq_true (by first | (with_reducible assumption) | assumption)
                      have hx13 := bt_at a0 (ji10)
                      replace p13 := eq_true p13
                      replace q13 := eq_true q13
                      go_wp2_with (first | (go_at_call 71; (with_reducible refine (colloquyref02_unhex.calls k1 (bt a0 (ji10)) t297 _ A14.out).mono ?_); rintro e w' ⟨rfl, ⟨nd, rfl⟩⟩))
                      go_meet
                      case rel => exact ⟨_, (true), (by first | rfl | (simp; done) | (simp [*]; done)), H', ⟨by have := HK1.out; first | omega | exact Nat.le_refl _⟩, ⟨by (with_reducible repeat (first | apply Kd.R_alloc | apply Kd.R_drewN | apply Kd.R_drew)); exact HO_4.out⟩, ⟨by repeat (first | (with_reducible first | exact HB.out | apply below_alloc | apply pw_below_drewN | apply below_drew1) | exact HB.out)⟩⟩
                    · rw [if_neg c15] at H
                      have c15b0 : decide (t297 < 0) = false := decide_eq_false c15
                      clear c15
                      obtain ⟨ji16, hji16⟩ : ∃ j_ : Int, (wrap64 (x5_1 + 2)) = j_ := ⟨_, rfl⟩
                      replace H : (if 0 ≤ (ji16) then (if (ji16) < (a0.size : Int) then ((colloquyref02_unhex.f k1 (bt a0 (ji16))).bind fun t298 => (colloquyref02_Read.j1 k1 a0 x4_1 x5_1 (decide (t298 < 0)))) else (none)) else (none)) = some (r1, r2) := by first | (rw [hji16] at H; exact H) | (simp only [hji16] at H ⊢; exact H)
                      (try rw [hji16] at A14)
                      have hji16w : (IntKind.i64.wrap (x5_1 + 2)) = ji16 := (i64_w _).trans hji16
                      by_cases c17 : 0 ≤ (ji16)
                      · rw [if_pos c17] at H
                        have c17b0 : decide (0 ≤ (ji16)) = true := decide_eq_true c17
                        clear c17
                        by_cases c18 : (ji16) < (a0.size : Int)
                        · rw [if_pos c18] at H
                          have c18b0 : decide ((ji16) < (a0.size : Int)) = true := decide_eq_true c18
                          clear c18
                          replace H := Option.bind_eq_some_iff.mp H
                          obtain ⟨t298, A200, H⟩ := H
                          replace H : (colloquyref02_Read.j1 k1 a0 x4_1 x5_1 (decide (t298 < 0))) = some (r1, r2) := H
                          have A20 := Aside0.mk A200
                          clear A200
                          have H' := Aside0.mk H
                          clear H
                          have p13 : 0 ≤ ((ji10) : Int) := of_decide_eq_true (by first | (with_reducible assumption) | assumption)
                          have q13 : (ji10) < (a0.size : Int) := of_decide_eq_true (by first | (with_reducible assumption) | assumption)
                          have hx13 := bt_at a0 (ji10)
                          replace p13 := eq_true p13
                          replace q13 := eq_true q13
                          go_wp2_with (first | (go_at_call 71; (with_reducible refine (colloquyref02_unhex.calls k1 (bt a0 (ji10)) t297 _ A14.out).mono ?_); rintro e w' ⟨rfl, ⟨nd, rfl⟩⟩; have p19 : 0 ≤ ((ji16) : Int) := of_decide_eq_true (by first | (with_reducible assumption) | assumption); have q19 : (ji16) < (a0.size : Int) := of_decide_eq_true (by first | (with_reducible assumption) | assumption); have hx19 := bt_at a0 (ji16); replace p19 := eq_true p19; replace q19 := eq_true q19) | (go_at_call 71; (with_reducible refine (colloquyref02_unhex.calls k1 (bt a0 (ji16)) t298 _ A20.out).mono ?_); rintro e w' ⟨rfl, ⟨nd, rfl⟩⟩))
                          go_meet
                          case rel => exact ⟨_, (decide (t298 < 0)), (by first | rfl | (simp; done) | (simp [*]; done)), H', ⟨by have := HK1.out; first | omega | exact Nat.le_refl _⟩, ⟨by (with_reducible repeat (first | apply Kd.R_alloc | apply Kd.R_drewN | apply Kd.R_drew)); exact HO_4.out⟩, ⟨by repeat (first | (with_reducible first | exact HB.out | apply below_alloc | apply pw_below_drewN | apply below_drew1) | exact HB.out)⟩⟩
                        · rw [if_neg c18] at H
                          exact absurd H (by simp)
                      · rw [if_neg c17] at H
                        exact absurd H (by simp)
                  · rw [if_neg c12] at H
                    exact absurd H (by simp)
                · rw [if_neg c11] at H
                  exact absurd H (by simp)
            case rest =>
              clear HC8
              try clear c1
              try clear p1
              try clear q1
              try clear hx1
              try clear p2
              try clear c4
              try clear c4b0
              try clear c5
              try clear c5b0
              try clear p6
              try clear q6
              try clear hx6
              try clear c7
              try clear c7b0
              try clear c7b1
              try clear c9
              try clear c9b0
              try clear c9b1
              try clear c11
              try clear c11b0
              try clear c12
              try clear c12b0
              try clear p13
              try clear q13
              try clear hx13
              try clear c15
              try clear c15b0
              try clear c17
              try clear c17b0
              try clear c18
              try clear c18b0
              try clear p19
              try clear q19
              try clear hx19
              try clear p13
              try clear p19
              try clear p2
              try clear p6
              try clear q13
              try clear q19
              try clear q6
              obtain ⟨kq, x43_7, rfl, HA, HJ7, HO_4, HB⟩ := hcut
              cases kq with
              | zero => exact absurd HA.out (by simp [colloquyref02_Read.j1])
              | succ kj7 =>
                have H := HA.out
                clear HA
                simp only [colloquyref02_Read.j1] at H
                by_cases c21 : x43_7 = true
                · subst c21
                  have H1 : (some ((⟨#[]⟩ : ByteArray), false)) = some (r1, r2) := by rw [if_pos rfl] at H; exact H
                  clear H
                  have H := H1
                  clear H1
                  simp only [Option.some.injEq, Prod.mk.injEq] at H
                  obtain ⟨rfl, rfl⟩ := H
                  go_wp2
                  go_ret2
                  exact ⟨by first | rfl | (simp [errW_none, errW_some] <;> rfl) | (simp [*, errW_none, errW_some] <;> rfl), by repeat (first | (with_reducible first | exact HB.out | apply below_alloc | apply pw_below_drewN | apply below_drew1) | exact HB.out)⟩
                · replace c21 := Bool.eq_false_iff.mpr c21
                  subst c21
                  have H1 : (if 0 ≤ (wrap64 (x5_1 + 1)) then (if (wrap64 (x5_1 + 1)) < (a0.size : Int) then ((colloquyref02_unhex.f kj7 (bt a0 (wrap64 (x5_1 + 1)))).bind fun t299 => (if 0 ≤ (wrap64 (x5_1 + 2)) then (if (wrap64 (x5_1 + 2)) < (a0.size : Int) then ((colloquyref02_unhex.f kj7 (bt a0 (wrap64 (x5_1 + 2)))).bind fun t300 => (if x4_1.length < 140737488355328 then (colloquyref02_Read.l0 kj7 a0 (x4_1 ++ [(wrap64 ((wrap64 (16 * t299)) + t300)) % 256]) (wrap64 (x5_1 + 3))) else (none))) else (none)) else (none))) else (none)) else (none)) = some (r1, r2) := by rw [if_neg (show ¬ (false = true) by decide)] at H; exact H
                  clear H
                  have H := H1
                  clear H1
                  obtain ⟨ji22, hji22⟩ : ∃ j_ : Int, (wrap64 (x5_1 + 1)) = j_ := ⟨_, rfl⟩
                  replace H : (if 0 ≤ (ji22) then (if (ji22) < (a0.size : Int) then ((colloquyref02_unhex.f kj7 (bt a0 (ji22))).bind fun t299 => (if 0 ≤ (wrap64 (x5_1 + 2)) then (if (wrap64 (x5_1 + 2)) < (a0.size : Int) then ((colloquyref02_unhex.f kj7 (bt a0 (wrap64 (x5_1 + 2)))).bind fun t300 => (if x4_1.length < 140737488355328 then (colloquyref02_Read.l0 kj7 a0 (x4_1 ++ [(wrap64 ((wrap64 (16 * t299)) + t300)) % 256]) (wrap64 (x5_1 + 3))) else (none))) else (none)) else (none))) else (none)) else (none)) = some (r1, r2) := by first | (rw [hji22] at H; exact H) | (simp only [hji22] at H ⊢; exact H)
                  have hji22w : (IntKind.i64.wrap (x5_1 + 1)) = ji22 := (i64_w _).trans hji22
                  by_cases c23 : 0 ≤ (ji22)
                  · rw [if_pos c23] at H
                    have c23b0 : decide (0 ≤ (ji22)) = true := decide_eq_true c23
                    clear c23
                    by_cases c24 : (ji22) < (a0.size : Int)
                    · rw [if_pos c24] at H
                      have c24b0 : decide ((ji22) < (a0.size : Int)) = true := decide_eq_true c24
                      clear c24
                      replace H := Option.bind_eq_some_iff.mp H
                      obtain ⟨t299, A260, H⟩ := H
                      replace H : (if 0 ≤ (wrap64 (x5_1 + 2)) then (if (wrap64 (x5_1 + 2)) < (a0.size : Int) then ((colloquyref02_unhex.f kj7 (bt a0 (wrap64 (x5_1 + 2)))).bind fun t300 => (if x4_1.length < 140737488355328 then (colloquyref02_Read.l0 kj7 a0 (x4_1 ++ [(wrap64 ((wrap64 (16 * t299)) + t300)) % 256]) (wrap64 (x5_1 + 3))) else (none))) else (none)) else (none)) = some (r1, r2) := H
                      have A26 := Aside0.mk A260
                      clear A260
                      obtain ⟨ji27, hji27⟩ : ∃ j_ : Int, (wrap64 (x5_1 + 2)) = j_ := ⟨_, rfl⟩
                      replace H : (if 0 ≤ (ji27) then (if (ji27) < (a0.size : Int) then ((colloquyref02_unhex.f kj7 (bt a0 (ji27))).bind fun t300 => (if x4_1.length < 140737488355328 then (colloquyref02_Read.l0 kj7 a0 (x4_1 ++ [(wrap64 ((wrap64 (16 * t299)) + t300)) % 256]) (wrap64 (x5_1 + 3))) else (none))) else (none)) else (none)) = some (r1, r2) := by first | (rw [hji27] at H; exact H) | (simp only [hji27] at H ⊢; exact H)
                      (try rw [hji27] at A26)
                      have hji27w : (IntKind.i64.wrap (x5_1 + 2)) = ji27 := (i64_w _).trans hji27
                      by_cases c28 : 0 ≤ (ji27)
                      · rw [if_pos c28] at H
                        have c28b0 : decide (0 ≤ (ji27)) = true := decide_eq_true c28
                        clear c28
                        by_cases c29 : (ji27) < (a0.size : Int)
                        · rw [if_pos c29] at H
                          have c29b0 : decide ((ji27) < (a0.size : Int)) = true := decide_eq_true c29
                          clear c29
                          replace H := Option.bind_eq_some_iff.mp H
                          obtain ⟨t300, A310, H⟩ := H
                          replace H : (if x4_1.length < 140737488355328 then (colloquyref02_Read.l0 kj7 a0 (x4_1 ++ [(wrap64 ((wrap64 (16 * t299)) + t300)) % 256]) (wrap64 (x5_1 + 3))) else (none)) = some (r1, r2) := H
                          have A31 := Aside0.mk A310
                          clear A310
                          by_cases c32 : x4_1.length < 140737488355328
                          · rw [if_pos c32] at H
                            have LMc32 := Aside0.mk c32
                            clear c32
                            obtain ⟨y301, hy301⟩ : ∃ y_ : List Int, y_ = (x4_1 ++ [(wrap64 ((wrap64 (16 * t299)) + t300)) % 256]) := ⟨_, rfl⟩
                            replace H : (colloquyref02_Read.l0 kj7 a0 y301 (wrap64 (x5_1 + 3))) = some (r1, r2) := by first | (rw [hy301]; with_reducible exact H) | (have H2_ := (Option.bind_some _ _).symm.trans H; rw [hy301]; with_reducible exact H2_) | (have H2_ := (Option.bind_some _ _).symm.trans H; with_reducible exact H2_) | with_reducible exact H | (rw [hy301]; exact H) | exact H
                            have Ny301 := Aside0.mk hy301
                            clear hy301
                            have H' := Aside0.mk H
                            clear H
                            try go_wp2
                            have n0_ := Aside0.mk (Kd.R_drew HO_4.out)
                            have n1_ := Aside0.mk (below_drew1 HB.out)
                            clear HO_4
                            clear HB
                            have HO_4 := n0_
                            have HB := n1_
                            clear n0_ n1_
                            have p25 : 0 ≤ ((ji22) : Int) := of_decide_eq_true (by first | (with_reducible assumption) | assumption)
                            have q25 : (ji22) < (a0.size : Int) := of_decide_eq_true (by first | (with_reducible assumption) | assumption)
                            have hx25 := bt_at a0 (ji22)
                            replace p25 := eq_true p25
                            replace q25 := eq_true q25
                            have p30 : 0 ≤ ((ji27) : Int) := of_decide_eq_true (by first | (with_reducible assumption) | assumption)
                            have q30 : (ji27) < (a0.size : Int) := of_decide_eq_true (by first | (with_reducible assumption) | assumption)
                            have hx30 := bt_at a0 (ji27)
                            replace p30 := eq_true p30
                            replace q30 := eq_true q30
                            refine start_ (n := 17) (S := fun w' => True) (ds := []) #[false, false, false, false, false, false, false, false, false, false, false, false, false, false, false, false, false] (by kernel_rfl) rfl rfl trivial (fun hHeld => ?_); refine with_tabW colloquyref02_Read.tab9 colloquyref02_Read.bits9 (fun HT_ HW_ => ?_)
                            generalize wc.drew = w33 at HO_4 HB hHeld ⊢
                            refine pure_ (i := 0) (N := some 44) (v := ?_) (a' := ?_) #[true, false, false, false, false, false, false, false, false, false, false, false, false, false, false, false, false] rfl rfl (any_of HT_.out (by kernel_rfl)) (fun _ _ _ h => h) (Or.inl ⟨by rfl, ?_⟩) ?_ ?_
                            rotate_left
                            · intro w'
                              go_simp
                              with_reducible rfl
                            rotate_left
                            · simp only [Act.put, List.setIfInBounds_toArray, List.set_cons_zero, List.set_cons_succ, i64_w, i32_w]
                              rfl
                            refine pure_ (i := 1) (N := some 45) (v := ?_) (a' := ?_) #[true, true, false, false, false, false, false, false, false, false, false, false, false, false, false, false, false] rfl rfl (any_of HT_.out (by kernel_rfl)) (fun _ _ _ h => h) (Or.inl ⟨by rfl, ?_⟩) ?_ ?_
                            rotate_left
                            · intro w'
                              go_simp
                              with_reducible rfl
                            rotate_left
                            · simp only [Act.put, List.setIfInBounds_toArray, List.set_cons_zero, List.set_cons_succ, i64_w, i32_w]
                              rfl
                            refine pure_ (i := 2) (N := some 46) (v := ?_) (a' := ?_) #[true, true, true, false, false, false, false, false, false, false, false, false, false, false, false, false, false] rfl rfl (any_of HT_.out (by kernel_rfl)) (fun _ _ _ h => h) (Or.inl ⟨by rfl, ?_⟩) ?_ ?_
                            rotate_left
                            · intro w'
                              go_simp
                              with_reducible rfl
                            rotate_left
                            · simp only [Act.put, List.setIfInBounds_toArray, List.set_cons_zero, List.set_cons_succ, i64_w, i32_w]
                              rfl
                            refine pure_ (i := 3) (N := some 47) (v := ?_) (a' := ?_) #[true, true, true, true, false, false, false, false, false, false, false, false, false, false, false, false, false] rfl rfl (any_of HT_.out (by kernel_rfl)) (fun _ _ _ h => h) (Or.inl ⟨by rfl, ?_⟩) ?_ ?_
                            rotate_left
                            · intro w'
                              go_simp
                              with_reducible rfl
                            rotate_left
                            · simp only [Act.put, List.setIfInBounds_toArray, List.set_cons_zero, List.set_cons_succ, i64_w, i32_w]
                              rfl
                            refine pure_ (i := 7) (N := some 51) (v := ?_) (a' := ?_) #[true, true, true, true, false, false, false, true, false, false, false, false, false, false, false, false, false] rfl rfl (any_of HT_.out (by kernel_rfl)) (fun _ _ _ h => h) (Or.inl ⟨by rfl, ?_⟩) ?_ ?_
                            rotate_left
                            · intro w'
                              go_simp
                              with_reducible rfl
                            rotate_left
                            · simp only [Act.put, List.setIfInBounds_toArray, List.set_cons_zero, List.set_cons_succ, i64_w, i32_w]
                              rfl
                            refine pure_ (i := 8) (N := some 52) (v := ?_) (a' := ?_) #[true, true, true, true, false, false, false, true, true, false, false, false, false, false, false, false, false] rfl rfl (any_of HT_.out (by kernel_rfl)) (fun _ _ _ h => h) (Or.inl ⟨by rfl, ?_⟩) ?_ ?_
                            rotate_left
                            · intro w'
                              go_simp
                              with_reducible rfl
                            rotate_left
                            · simp only [Act.put, List.setIfInBounds_toArray, List.set_cons_zero, List.set_cons_succ, i64_w, i32_w]
                              rfl
                            refine pure_ (i := 9) (N := some 53) (v := ?_) (a' := ?_) #[true, true, true, true, false, false, false, true, true, true, false, false, false, false, false, false, false] rfl rfl (any_of HT_.out (by kernel_rfl)) (fun _ _ _ h => h) (Or.inl ⟨by rfl, ?_⟩) ?_ ?_
                            rotate_left
                            · intro w'
                              go_simp
                              with_reducible rfl
                            rotate_left
                            · simp only [Act.put, List.setIfInBounds_toArray, List.set_cons_zero, List.set_cons_succ, i64_w, i32_w]
                              rfl
                            refine take_ (i := 4) (N := some 48) (v := ?_) (a' := ?_) #[true, true, true, true, true, false, false, true, true, true, false, false, false, false, false, false, false] rfl rfl (take_ofW HT_.out HW_.out (by kernel_rfl)) (fun _ _ _ h => h) (Or.inl ⟨by rfl, ?_⟩) hHeld ?_ ?_
                            rotate_left
                            · intro w' _
                              go_simp
                              with_reducible rfl
                            rotate_left
                            · simp only [Act.put, List.setIfInBounds_toArray, List.set_cons_zero, List.set_cons_succ, i64_w, i32_w]
                              rfl
                            refine take_ (i := 10) (N := some 54) (v := ?_) (a' := ?_) #[true, true, true, true, true, false, false, true, true, true, true, false, false, false, false, false, false] rfl rfl (take_ofW HT_.out HW_.out (by kernel_rfl)) (fun _ _ _ h => h) (Or.inl ⟨by rfl, ?_⟩) hHeld ?_ ?_
                            rotate_left
                            · intro w' _
                              go_simp
                              with_reducible rfl
                            rotate_left
                            · simp only [Act.put, List.setIfInBounds_toArray, List.set_cons_zero, List.set_cons_succ, i64_w, i32_w]
                              rfl
                            refine one_ (i := 5) (N := some 49) #[true, true, true, true, true, true, false, true, true, true, true, false, false, false, false, false, false] rfl rfl (one_of HT_.out (by kernel_rfl)) (by decide) (fun K hK => ?_)
                            refine goes_ Tryd.func71 (by kernel_rfl) rfl #[.int .u8 (bt a0 (ji22))] (by rfl) rfl rfl (by (try simp only [List.map_toArray, List.map_cons, List.map_nil]); first | done | (simp only [hji22]; rfl) | rfl | (simp only [List.length_drop, List.length_take]; rfl)) ?_
                            with_reducible refine (colloquyref02_unhex.calls kj7 (bt a0 (ji22)) t299 _ A26.out).mono ?_
                            rintro e w' ⟨rfl, ⟨nd, rfl⟩⟩
                            refine ⟨_, rfl, ?_⟩
                            refine hK.out _ _ trivial (fun hHeld => ?_)
                            clear hK K
                            refine norm_ (a' := ?_) ?_ ?_
                            rotate_left
                            · show Act.put _ (some 49) _ = _
                              simp only [Act.put, List.setIfInBounds_toArray, List.set_cons_zero, List.set_cons_succ, i64_w, i32_w]
                              rfl
                            refine pure_ (i := 6) (N := some 50) (v := ?_) (a' := ?_) #[true, true, true, true, true, true, true, true, true, true, true, false, false, false, false, false, false] rfl rfl (any_of HT_.out (by kernel_rfl)) (fun _ _ _ h => h) (Or.inl ⟨by rfl, ?_⟩) ?_ ?_
                            rotate_left
                            · intro w'
                              go_simp
                              with_reducible rfl
                            rotate_left
                            · simp only [Act.put, List.setIfInBounds_toArray, List.set_cons_zero, List.set_cons_succ, i64_w, i32_w]
                              rfl
                            refine one_ (i := 11) (N := some 55) #[true, true, true, true, true, true, true, true, true, true, true, true, false, false, false, false, false] rfl rfl (one_of HT_.out (by kernel_rfl)) (by decide) (fun K hK => ?_)
                            refine goes_ Tryd.func71 (by kernel_rfl) rfl #[.int .u8 (bt a0 (ji27))] (by rfl) rfl rfl (by (try simp only [List.map_toArray, List.map_cons, List.map_nil]); first | done | (simp only [hji27]; rfl) | rfl | (simp only [List.length_drop, List.length_take]; rfl)) ?_
                            with_reducible refine (colloquyref02_unhex.calls kj7 (bt a0 (ji27)) t300 _ A31.out).mono ?_
                            rintro e w' ⟨rfl, ⟨nd, rfl⟩⟩
                            refine ⟨_, rfl, ?_⟩
                            refine hK.out _ _ trivial (fun hHeld => ?_)
                            clear hK K
                            refine norm_ (a' := ?_) ?_ ?_
                            rotate_left
                            · show Act.put _ (some 55) _ = _
                              simp only [Act.put, List.setIfInBounds_toArray, List.set_cons_zero, List.set_cons_succ, i64_w, i32_w]
                              rfl
                            refine pure_ (i := 12) (N := some 56) (v := ?_) (a' := ?_) #[true, true, true, true, true, true, true, true, true, true, true, true, true, false, false, false, false] rfl rfl (any_of HT_.out (by kernel_rfl)) (fun _ _ _ h => h) (Or.inl ⟨by rfl, ?_⟩) ?_ ?_
                            rotate_left
                            · intro w'
                              go_simp
                              with_reducible rfl
                            rotate_left
                            · simp only [Act.put, List.setIfInBounds_toArray, List.set_cons_zero, List.set_cons_succ, i64_w, i32_w]
                              rfl
                            refine pure_ (i := 13) (N := some 57) (v := ?_) (a' := ?_) #[true, true, true, true, true, true, true, true, true, true, true, true, true, true, false, false, false] rfl rfl (any_of HT_.out (by kernel_rfl)) (fun _ _ _ h => h) (Or.inl ⟨by rfl, ?_⟩) ?_ ?_
                            rotate_left
                            · intro w'
                              go_simp
                              with_reducible rfl
                            rotate_left
                            · simp only [Act.put, List.setIfInBounds_toArray, List.set_cons_zero, List.set_cons_succ, i64_w, i32_w]
                              rfl
                            refine one_ (i := 14) (N := some 58) #[true, true, true, true, true, true, true, true, true, true, true, true, true, true, true, false, false] rfl rfl (one_of HT_.out (by kernel_rfl)) (by decide) (fun K hK => ?_)
                            refine value_ (w1 := ?_) (v := ?_) (by rfl) rfl ?_ ?_
                            rotate_left 2
                            · go_simp
                              constructor
                              · rfl
                              · rfl
                            refine hK.out _ _ trivial (fun hHeld => ?_)
                            clear hK K
                            refine norm_ (a' := ?_) ?_ ?_
                            rotate_left
                            · show Act.put _ (some 58) _ = _
                              simp only [Act.put, List.setIfInBounds_toArray, List.set_cons_zero, List.set_cons_succ, i64_w, i32_w]
                              rfl
                            refine one_ (i := 15) (N := some 59) #[true, true, true, true, true, true, true, true, true, true, true, true, true, true, true, true, false] rfl rfl (one_of HT_.out (by kernel_rfl)) (by decide) (fun K hK => ?_)
                            refine Kd.R_append_step (Kd.int .u8) (w0 := w) w.heap.size (by rfl) (.tmp 44) (.tmp 58) 74 5 (.int .u8 0) 1 rfl Tryd.underlying74 info5 rfl (by decide) (by omega) u4 x4_1 ((wrap64 ((wrap64 (16 * t299)) + t300)) % 256) [.int .u8 ((wrap64 ((wrap64 (16 * t299)) + t300)) % 256)] (fun _ => True) (fun _ => False) rfl rfl ?aP (fun _ hk => hk.elim) ?aF ?aO ?aB ?aS ?aL ?_
                            (case aP => exact rfl)
                            (case aB => exact (by repeat (first | (with_reducible first | exact HB.out | apply below_alloc | apply pw_below_drewN | apply below_drew1) | exact HB.out)))
                            (case aF => exact (fun _ _ => trivial))
                            (case aO => exact (by (with_reducible repeat (first | apply Kd.R_alloc | apply Kd.R_drewN | apply Kd.R_drew)); exact HO_4.out))
                            (case aS => exact (below_size (by repeat (first | (with_reducible first | exact HB.out | apply below_alloc | apply pw_below_drewN | apply below_drew1) | exact HB.out))))
                            (case aL => have := LMc32.out; omega)
                            intro v302 w34 ho hb hg hat
                            rw [← Ny301.out] at ho
                            have n0_ := Aside0.mk (hb)
                            have n1_ := Aside0.mk (ho)
                            clear HB
                            clear HO_4
                            have HB := n0_
                            have HO303 := n1_
                            clear n0_ n1_
                            clear ho hb hg hat
                            refine hK.out _ _ trivial (fun hHeld => ?_)
                            clear hK K
                            refine norm_ (a' := ?_) ?_ ?_
                            rotate_left
                            · show Act.put _ (some 59) _ = _
                              simp only [Act.put, List.setIfInBounds_toArray, List.set_cons_zero, List.set_cons_succ, i64_w, i32_w]
                              rfl
                            refine pure_ (i := 16) (N := some 4) (v := ?_) (a' := ?_) #[true, true, true, true, true, true, true, true, true, true, true, true, true, true, true, true, true] rfl rfl (any_of HT_.out (by kernel_rfl)) (fun _ _ _ h => h) (Or.inl ⟨by rfl, ?_⟩) ?_ ?_
                            rotate_left
                            · intro w'
                              go_simp
                              with_reducible rfl
                            rotate_left
                            · simp only [Act.put, List.setIfInBounds_toArray, List.set_cons_zero, List.set_cons_succ, i64_w, i32_w]
                              rfl
                            refine done_ (done_of HT_.out (by kernel_rfl)) ?_
                            try go_wp2
                            go_roundg kj7
                            case measure => have := HK1.out; have := HJ7.out; omega
                            case rel => exact ⟨(y301), (wrap64 (x5_1 + 3)), (by first | rfl | (simp; done) | (simp [*]; done)), H', ⟨by have := HK1.out; have := HJ7.out; omega⟩, ⟨by (with_reducible repeat (first | apply Kd.R_alloc | apply Kd.R_drewN | apply Kd.R_drew)); exact HO303.out⟩, ⟨by repeat (first | (with_reducible first | exact HB.out | apply below_alloc | apply pw_below_drewN | apply below_drew1) | exact HB.out)⟩⟩
                          · rw [if_neg c32] at H
                            exact absurd H (by simp)
                        · rw [if_neg c29] at H
                          exact absurd H (by simp)
                      · rw [if_neg c28] at H
                        exact absurd H (by simp)
                    · rw [if_neg c24] at H
                      exact absurd H (by simp)
                  · rw [if_neg c23] at H
                    exact absurd H (by simp)
          · rw [if_neg c7] at H
            have c7b0 : ((bt a0 x5_1) == 92) = false := beq_eq_false_iff_ne.mpr c7
            have c7b1 : ((bt a0 x5_1) != 92) = true := bne_iff_ne.mpr c7
            by_cases c36 : x4_1.length < 140737488355328
            · rw [if_pos c36] at H
              have LMc36 := Aside0.mk c36
              clear c36
              obtain ⟨y294, hy294⟩ : ∃ y_ : List Int, y_ = (x4_1 ++ [bt a0 x5_1]) := ⟨_, rfl⟩
              replace H : (colloquyref02_Read.l0 k1 a0 y294 (wrap64 (x5_1 + 1))) = some (r1, r2) := by first | (rw [hy294]; with_reducible exact H) | (have H2_ := (Option.bind_some _ _).symm.trans H; rw [hy294]; with_reducible exact H2_) | (have H2_ := (Option.bind_some _ _).symm.trans H; with_reducible exact H2_) | with_reducible exact H | (rw [hy294]; exact H) | exact H
              have Ny294 := Aside0.mk hy294
              clear hy294
              have H' := Aside0.mk H
              clear H
              have p6 : 0 ≤ (x5_1 : Int) := of_decide_eq_true (by first | (with_reducible assumption) | assumption)
              have q6 : x5_1 < (a0.size : Int) := of_decide_eq_true (by first | (with_reducible assumption) | assumption)
              have hx6 := bt_at a0 x5_1
              replace p6 := eq_true p6
              replace q6 := eq_true q6
              have p35 : 0 ≤ (x5_1 : Int) := of_decide_eq_true (by first | (with_reducible assumption) | assumption)
              have q35 : x5_1 < (a0.size : Int) := of_decide_eq_true (by first | (with_reducible assumption) | assumption)
              have hx35 := bt_at a0 x5_1
              replace p35 := eq_true p35
              replace q35 := eq_true q35
              go_wp2_with (first | ((with_reducible refine gate_builtin (b := .append) (xs := #[.tmp 15, .tmp 19]) rfl ?_); at_builtin; refine Kd.R_append (Kd.int .u8) (w0 := w) w.heap.size rfl (.tmp 15) (.tmp 19) 74 5 (.int .u8 0) 1 rfl Tryd.underlying74 info5 rfl (by decide) (by omega) u4 x4_1 (bt a0 x5_1) [.int .u8 (bt a0 x5_1)] (fun _ => True) (fun _ => False) rfl rfl ?aP (fun _ hk => hk.elim) ?aF ?aO ?aB ?aS ?aL ?_; (case aP => exact rfl); (case aB => exact (by repeat (first | (with_reducible first | exact HB.out | apply below_alloc | apply pw_below_drewN | apply below_drew1) | exact HB.out))); (case aF => exact (fun _ _ => trivial)); (case aO => exact (by (with_reducible repeat (first | apply Kd.R_alloc | apply Kd.R_drewN | apply Kd.R_drew)); exact HO_4.out)); (case aS => exact (below_size (by repeat (first | (with_reducible first | exact HB.out | apply below_alloc | apply pw_below_drewN | apply below_drew1) | exact HB.out)))); (case aL => have := LMc36.out; omega); intro v295 w37 ho hb hg hat; rw [← Ny294.out] at ho; have n0_ := Aside0.mk (hb); have n1_ := Aside0.mk (ho); clear HB; clear HO_4; have HB := n0_; have HO296 := n1_; clear n0_ n1_; clear ho hb hg hat))
              go_roundg k1
              case measure => have := HK1.out; omega
              case rel => exact ⟨(y294), (wrap64 (x5_1 + 1)), (by first | rfl | (simp; done) | (simp [*]; done)), H', ⟨by have := HK1.out; omega⟩, ⟨by (with_reducible repeat (first | apply Kd.R_alloc | apply Kd.R_drewN | apply Kd.R_drew)); exact HO296.out⟩, ⟨by repeat (first | (with_reducible first | exact HB.out | apply below_alloc | apply pw_below_drewN | apply below_drew1) | exact HB.out)⟩⟩
            · rw [if_neg c36] at H
              exact absurd H (by simp)
        · rw [if_neg c5] at H
          exact absurd H (by simp)
      · rw [if_neg c4] at H
        have c4b0 : decide (x5_1 < (a0.size : Int)) = false := decide_eq_false c4
        clear c4
        replace H := Option.bind_eq_some_iff.mp H
        obtain ⟨t304, A380, H⟩ := H
        replace H : (if t304 = true then ((colloquyref02_Write.f k1 (strOfNums x4_1)).bind fun t305 => (if t305.toList = a0.toList then (some (strOfNums x4_1, true)) else (some ((⟨#[]⟩ : ByteArray), false)))) else (some ((⟨#[]⟩ : ByteArray), false))) = some (r1, r2) := H
        have A38 := Aside0.mk A380
        clear A380
        by_cases c39 : t304 = true
        · subst c39
          have H1 : ((colloquyref02_Write.f k1 (strOfNums x4_1)).bind fun t305 => (if t305.toList = a0.toList then (some (strOfNums x4_1, true)) else (some ((⟨#[]⟩ : ByteArray), false)))) = some (r1, r2) := by rw [if_pos rfl] at H; exact H
          clear H
          have H := H1
          clear H1
          replace H := Option.bind_eq_some_iff.mp H
          obtain ⟨t305, A400, H⟩ := H
          replace H : (if t305.toList = a0.toList then (some (strOfNums x4_1, true)) else (some ((⟨#[]⟩ : ByteArray), false))) = some (r1, r2) := H
          have A40 := Aside0.mk A400
          clear A400
          by_cases c41 : t305.toList = a0.toList
          · rw [if_pos c41] at H
            have c41b0 : (t305.toList == a0.toList) = true := beq_iff_eq.mpr c41
            have c41b1 : (t305.toList != a0.toList) = false := bne_eq_false_iff_eq.mpr c41
            clear c41
            simp only [Option.some.injEq, Prod.mk.injEq] at H
            obtain ⟨rfl, rfl⟩ := H
            have hcv42 := own_string (P := Tryd.prog) Tryd.underlying74 Tryd.underlying5 Tryd.underlying9 (Kd.own_of_R HO_4.out)
            have hcv43 := fun (nq : Nat) => own_string (P := Tryd.prog) Tryd.underlying74 Tryd.underlying5 Tryd.underlying9 (Kd.own_of_R (Kd.R_drewN HO_4.out nq))
            go_wp2_with (first | ((with_reducible refine gate_callee (f := 26) rfl ?_); refine goesL_ (some 64) rfl rfl Tryd.func26 (by kernel_rfl) rfl #[.string (strOfNums x4_1)] rfl (by (try simp only [List.map_toArray, List.map_cons, List.map_nil]); first | done | rfl | (simp only [List.length_drop, List.length_take]; rfl)) ?_; (with_reducible refine (colloquyref02_Right.calls (strOfNums x4_1) true _ A38.out).mono ?_); rintro e w' ⟨rfl, ⟨nd, rfl⟩⟩; refine ⟨_, rfl, ?_⟩; have hcv44 := own_string (P := Tryd.prog) Tryd.underlying74 Tryd.underlying5 Tryd.underlying9 (Kd.own_of_R HO_4.out); have hcv45 := fun (nq : Nat) => own_string (P := Tryd.prog) Tryd.underlying74 Tryd.underlying5 Tryd.underlying9 (Kd.own_of_R (Kd.R_drewN HO_4.out nq))) | (go_at_call 44; (with_reducible refine (colloquyref02_Write.calls k1 (strOfNums x4_1) t305 _ A40.out).mono ?_); rintro e w46 ⟨rfl, hb⟩; have n0_ := Aside0.mk (Kd.R_below (by (with_reducible repeat (first | apply Kd.R_alloc | apply Kd.R_drewN | apply Kd.R_drew)); exact HO_4.out) hb); have n1_ := Aside0.mk (below_step (by repeat (first | (with_reducible first | exact HB.out | apply below_alloc | apply pw_below_drewN | apply below_drew1) | exact HB.out)) hb); clear HO_4; clear HB; have HO_4 := n0_; have HB := n1_; clear n0_ n1_; (try clear hb); (try clear hb2); (try clear hk); (try clear hi); have hcv47 := own_string (P := Tryd.prog) Tryd.underlying74 Tryd.underlying5 Tryd.underlying9 (Kd.own_of_R HO_4.out); have hcv48 := fun (nq : Nat) => own_string (P := Tryd.prog) Tryd.underlying74 Tryd.underlying5 Tryd.underlying9 (Kd.own_of_R (Kd.R_drewN HO_4.out nq))))
            go_ret2
            exact ⟨by first | rfl | (simp [errW_none, errW_some] <;> rfl) | (simp [*, errW_none, errW_some] <;> rfl), by repeat (first | (with_reducible first | exact HB.out | apply below_alloc | apply pw_below_drewN | apply below_drew1) | exact HB.out)⟩
          · rw [if_neg c41] at H
            have c41b0 : (t305.toList == a0.toList) = false := beq_eq_false_iff_ne.mpr c41
            have c41b1 : (t305.toList != a0.toList) = true := bne_iff_ne.mpr c41
            simp only [Option.some.injEq, Prod.mk.injEq] at H
            obtain ⟨rfl, rfl⟩ := H
            have hcv49 := own_string (P := Tryd.prog) Tryd.underlying74 Tryd.underlying5 Tryd.underlying9 (Kd.own_of_R HO_4.out)
            have hcv50 := fun (nq : Nat) => own_string (P := Tryd.prog) Tryd.underlying74 Tryd.underlying5 Tryd.underlying9 (Kd.own_of_R (Kd.R_drewN HO_4.out nq))
            go_wp2_with (first | ((with_reducible refine gate_callee (f := 26) rfl ?_); refine goesL_ (some 64) rfl rfl Tryd.func26 (by kernel_rfl) rfl #[.string (strOfNums x4_1)] rfl (by (try simp only [List.map_toArray, List.map_cons, List.map_nil]); first | done | rfl | (simp only [List.length_drop, List.length_take]; rfl)) ?_; (with_reducible refine (colloquyref02_Right.calls (strOfNums x4_1) true _ A38.out).mono ?_); rintro e w' ⟨rfl, ⟨nd, rfl⟩⟩; refine ⟨_, rfl, ?_⟩; have hcv51 := own_string (P := Tryd.prog) Tryd.underlying74 Tryd.underlying5 Tryd.underlying9 (Kd.own_of_R HO_4.out); have hcv52 := fun (nq : Nat) => own_string (P := Tryd.prog) Tryd.underlying74 Tryd.underlying5 Tryd.underlying9 (Kd.own_of_R (Kd.R_drewN HO_4.out nq))) | (go_at_call 44; (with_reducible refine (colloquyref02_Write.calls k1 (strOfNums x4_1) t305 _ A40.out).mono ?_); rintro e w53 ⟨rfl, hb⟩; have n0_ := Aside0.mk (Kd.R_below (by (with_reducible repeat (first | apply Kd.R_alloc | apply Kd.R_drewN | apply Kd.R_drew)); exact HO_4.out) hb); have n1_ := Aside0.mk (below_step (by repeat (first | (with_reducible first | exact HB.out | apply below_alloc | apply pw_below_drewN | apply below_drew1) | exact HB.out)) hb); clear HO_4; clear HB; have HO_4 := n0_; have HB := n1_; clear n0_ n1_; (try clear hb); (try clear hb2); (try clear hk); (try clear hi)))
            go_ret2
            exact ⟨by first | rfl | (simp [errW_none, errW_some] <;> rfl) | (simp [*, errW_none, errW_some] <;> rfl), by repeat (first | (with_reducible first | exact HB.out | apply below_alloc | apply pw_below_drewN | apply below_drew1) | exact HB.out)⟩
        · replace c39 := Bool.eq_false_iff.mpr c39
          subst c39
          have H1 : (some ((⟨#[]⟩ : ByteArray), false)) = some (r1, r2) := by rw [if_neg (show ¬ (false = true) by decide)] at H; exact H
          clear H
          have H := H1
          clear H1
          simp only [Option.some.injEq, Prod.mk.injEq] at H
          obtain ⟨rfl, rfl⟩ := H
          have hcv54 := own_string (P := Tryd.prog) Tryd.underlying74 Tryd.underlying5 Tryd.underlying9 (Kd.own_of_R HO_4.out)
          have hcv55 := fun (nq : Nat) => own_string (P := Tryd.prog) Tryd.underlying74 Tryd.underlying5 Tryd.underlying9 (Kd.own_of_R (Kd.R_drewN HO_4.out nq))
          go_wp2_with (first | ((with_reducible refine gate_callee (f := 26) rfl ?_); refine goesL_ (some 64) rfl rfl Tryd.func26 (by kernel_rfl) rfl #[.string (strOfNums x4_1)] rfl (by (try simp only [List.map_toArray, List.map_cons, List.map_nil]); first | done | rfl | (simp only [List.length_drop, List.length_take]; rfl)) ?_; (with_reducible refine (colloquyref02_Right.calls (strOfNums x4_1) false _ A38.out).mono ?_); rintro e w' ⟨rfl, ⟨nd, rfl⟩⟩; refine ⟨_, rfl, ?_⟩))
          go_ret2
          exact ⟨by first | rfl | (simp [errW_none, errW_some] <;> rfl) | (simp [*, errW_none, errW_some] <;> rfl), by repeat (first | (with_reducible first | exact HB.out | apply below_alloc | apply pw_below_drewN | apply below_drew1) | exact HB.out)⟩
end
end Go.Proofs.YtljmbgilcngfgaaDoor.PA
section
namespace Go.Proofs.YtljmbgilcngfgaaDoor.Pure
open Go.RowKit Go.Proofs.YtljmbgilcngfgaaDoor.PA Go.Proofs.YtljmbgilcngfgaaDoorW.PrintWords Go.Proofs.YtljmbgilcngfgaaDoorW.PrintLast Go.Proofs.YtljmbgilcngfgaaDoorW.PrintMore
theorem wrap_id {i : Int} (h0 : -9223372036854775808 ≤ i) (h : i ≤ 9223372036854775807) : wrap64 i = i := by
  unfold wrap64
  omega
def plainV (s : ByteArray) (i : Nat) : Bool := decide (32 < bt s i ∧ bt s i < 127 ∧ bt s i ≠ 92 ∨ bt s i = 32 ∧ 0 < i ∧ i + 1 < s.size)
theorem plain_eq (s : ByteArray) (i : Nat) (hi : i < s.size) (hm : s.size ≤ 281474976710656) : name_plain.f s i = some (plainV s i) := by
  have hw : wrap64 ((s.size : Int) - 1) = s.size - 1 := wrap_id (by omega) (by omega)
  unfold name_plain.f plainV
  rw [if_pos (by omega), if_pos (by omega), hw]
  generalize bt s i = c
  repeat' split
  all_goals first
    | exact congrArg some (decide_eq_true (by omega)).symm
    | exact congrArg some (decide_eq_false (by omega)).symm
    | exact congrArg some (decide_eq_decide.2 (by omega))
theorem nmStep_eq (s : ByteArray) (i : Nat) (hi : i < s.size) (hm : s.size ≤ 281474976710656) : nmStep s i = if plainV s i = true then [bt s i] else [92, bt nmDig (bt s i / 16), bt nmDig (bt s i % 16)] := by
  unfold nmStep
  rw [plain_eq s i hi hm]
  by_cases h : plainV s i = true
  · rw [if_pos h, if_pos (by rw [h])]
  · rw [if_neg h, if_neg (by simpa using h)]
def wr (s : ByteArray) : ByteArray := if 1 ≤ s.size ∧ s.size ≤ 80 then strOfNums (nmPre s s.size) else ⟨#[]⟩
theorem write_eq (s : ByteArray) : name_Write.f s = some (wr s) := rfl
def rightB (s : ByteArray) : Bool := decide (1 ≤ s.size ∧ s.size ≤ 80)
theorem right_eq (s : ByteArray) : name_Right.f s = some (rightB s) := by
  unfold name_Right.f rightB
  split
  all_goals first
    | exact congrArg some (decide_eq_false (by omega)).symm
    | exact congrArg some (decide_eq_decide.2 (by omega))
theorem rright_eq (s : ByteArray) : colloquyref02_Right.f s = some (rightB s) := by
  unfold colloquyref02_Right.f rightB
  split
  all_goals first
    | exact congrArg some (decide_eq_false (by omega)).symm
    | exact congrArg some (decide_eq_decide.2 (by omega))
theorem hex_nat : ∀ n : Nat, n < 16 → colloquyref02_hex.f (n : Int) = some (bt nmDig n) := by decide +kernel
theorem hex_eq (x : Int) (h0 : 0 ≤ x) (h1 : x < 16) : colloquyref02_hex.f x = some (bt nmDig x) := by
  obtain ⟨n, rfl⟩ := Int.eq_ofNat_of_zero_le h0
  exact hex_nat n (by omega)
theorem rw_l0 (k : Nat) (s : ByteArray) (out : List Int) (n : Nat) (hn : n < s.size) (hm : s.size ≤ 281474976710656) :
    colloquyref02_Write.l0 (k + 1) s out n = colloquyref02_Write.j1 k s out n (bt s n) (decide (bt s n = 32 ∧ n ≠ 0 ∧ n + 1 ≠ s.size)) := by
  have hw : wrap64 ((s.size : Int) - 1) = s.size - 1 := wrap_id (by omega) (by omega)
  simp only [colloquyref02_Write.l0]
  rw [if_pos (by omega), if_pos (by omega), hw]
  split
  · split
    · congr 1
      exact (decide_eq_false (by omega)).symm
    · congr 1
      rw [Bool.eq_iff_iff, bne_iff_ne, decide_eq_true_eq]
      omega
  · congr 1
    exact (decide_eq_false (by omega)).symm
theorem rw_j1 (k : Nat) (s : ByteArray) (out : List Int) (n : Nat) (c : Int) (b : Bool) :
    colloquyref02_Write.j1 (k + 1) s out n c b = colloquyref02_Write.j2 k s out n c (b || decide (33 ≤ c ∧ c ≤ 126 ∧ c ≠ 92)) := by
  simp only [colloquyref02_Write.j1]
  cases b with
  | true => rw [if_pos rfl]; rfl
  | false =>
    rw [if_neg (by simp), Bool.false_or]
    split
    · split
      · congr 1
        rw [Bool.eq_iff_iff, bne_iff_ne, decide_eq_true_eq]
        omega
      · congr 1
        exact (decide_eq_false (by omega)).symm
    · congr 1
      exact (decide_eq_false (by omega)).symm
theorem plain_or (s : ByteArray) (n : Nat) (hn : n < s.size) : (decide (bt s n = 32 ∧ n ≠ 0 ∧ n + 1 ≠ s.size) || decide (33 ≤ bt s n ∧ bt s n ≤ 126 ∧ bt s n ≠ 92)) = plainV s n := by
  unfold plainV
  rw [Bool.eq_iff_iff, Bool.or_eq_true, decide_eq_true_eq, decide_eq_true_eq, decide_eq_true_eq]
  omega
theorem rwrite_l (s : ByteArray) (hs : s.size ≤ 80) : ∀ (d n : Nat), n ≤ s.size → d = s.size - n →
    Ev (fun k => colloquyref02_Write.l0 k s (nmPre s n) n) (strOfNums (nmPre s s.size)) := by
  intro d
  induction d with
  | zero =>
    intro n hn hd
    obtain rfl : n = s.size := by omega
    refine Ev.step (f := fun _ => some (strOfNums (nmPre s s.size))) (fun k => ?_) (Ev.now _)
    simp only [colloquyref02_Write.l0]
    rw [if_neg (by omega)]
  | succ d ih =>
    intro n hn hd
    have hlt : n < s.size := by omega
    have hl := nmPre_len s n
    have e : wrap64 ((n : Int) + 1) = ((n + 1 : Nat) : Int) := by unfold wrap64; omega
    refine Ev.step (fun k => rw_l0 k s _ n hlt (by omega)) (Ev.step (fun k => rw_j1 k s _ n _ _) ?_)
    rw [plain_or s n hlt]
    have hi := ih (n + 1) (by omega) (by omega)
    rw [nmPre_succ, nmStep_eq s n hlt (by omega)] at hi
    by_cases hp : plainV s n = true
    · rw [if_pos hp] at hi
      refine Ev.step (fun k => ?_) hi
      simp only [colloquyref02_Write.j2]
      rw [if_pos hp, if_pos (by omega), e]
    · rw [if_neg hp] at hi
      obtain ⟨c0, c1⟩ := bt_range s n
      have e1 : (Int.tdiv (bt s n) 16) % 256 = bt s n / 16 := by
        rw [Int.tdiv_eq_ediv_of_nonneg c0]
        omega
      have e2 : Int.tmod (bt s n) 16 = bt s n % 16 := Int.tmod_eq_emod_of_nonneg c0
      refine Ev.step (fun k => ?_) hi
      simp only [colloquyref02_Write.j2]
      rw [if_neg hp, e1, e2, hex_eq _ (by omega) (by omega), hex_eq _ (by omega) (by omega)]
      simp only [Option.bind_some]
      rw [if_pos (by simp; omega), e]
theorem rwrite_ev (s : ByteArray) : Ev (fun k => colloquyref02_Write.f k s) (wr s) := by
  unfold colloquyref02_Write.f
  rw [rright_eq]
  simp only [Option.bind_some]
  by_cases h : rightB s = true
  · have h' := of_decide_eq_true h
    refine Ev.congr (fun k => if_pos h) ?_
    unfold wr
    rw [if_pos h']
    exact rwrite_l s h'.2 s.size 0 (by omega) (by omega)
  · refine Ev.congr (fun k => if_neg h) ?_
    unfold wr
    rw [if_neg (fun h' => h (decide_eq_true h'))]
    exact Ev.now _
def ixd (c : Int) : Int := Lib.indexByte nmDig.data.toList c.toNat.toUInt8
theorem index_eq (c : Int) : strings_IndexByte.f (⟨#[48, 49, 50, 51, 52, 53, 54, 55, 56, 57, 97, 98, 99, 100, 101, 102]⟩ : ByteArray) c = some (ixd c) := rfl
theorem ixd_range_nat : ∀ n : Nat, n < 256 → -1 ≤ ixd (n : Int) ∧ ixd (n : Int) < 16 := by decide +kernel
theorem ixd_range (s : ByteArray) (i : Int) : -1 ≤ ixd (bt s i) ∧ ixd (bt s i) < 16 := by
  obtain ⟨h0, h1⟩ := bt_range s i
  obtain ⟨n, hn⟩ := Int.eq_ofNat_of_zero_le h0
  rw [hn]
  exact ixd_range_nat n (by omega)
theorem unhex_nat : ∀ n : Nat, n < 256 → colloquyref02_unhex.f 20 (n : Int) = some (ixd (n : Int)) := by decide +kernel
theorem unhex_ev (s : ByteArray) (i : Int) : Ev (fun k => colloquyref02_unhex.f k (bt s i)) (ixd (bt s i)) := by
  obtain ⟨h0, h1⟩ := bt_range s i
  obtain ⟨n, hn⟩ := Int.eq_ofNat_of_zero_le h0
  rw [hn]
  exact ⟨20, fun k hk => at_rounds (colloquyref02_unhex.mono _) hk (unhex_nat n (by omega))⟩
theorem or_nat : ∀ a : Nat, a < 16 → ∀ b : Nat, b < 16 → (Go.bits .or .i64 (wrap64 ((a : Int) * 16)) (b : Int)) % 256 = ((16 * a + b : Nat) : Int) := by decide +kernel
theorem or_eq (a b : Int) (a0 : 0 ≤ a) (a1 : a < 16) (b0 : 0 ≤ b) (b1 : b < 16) : (Go.bits .or .i64 (wrap64 (a * 16)) b) % 256 = 16 * a + b := by
  obtain ⟨m, rfl⟩ := Int.eq_ofNat_of_zero_le a0
  obtain ⟨n, rfl⟩ := Int.eq_ofNat_of_zero_le b0
  rw [or_nat m (by omega) n (by omega)]
  omega
theorem add_eq (a b : Int) (a0 : 0 ≤ a) (a1 : a < 16) (b0 : 0 ≤ b) (b1 : b < 16) : (wrap64 ((wrap64 (16 * a)) + b)) % 256 = 16 * a + b := by
  rw [wrap_id (i := 16 * a) (by omega) (by omega), wrap_id (by omega) (by omega)]
  omega
theorem same_read (t : ByteArray) (ht : t.size ≤ 140737488351232) : ∀ (d n : Nat) (out : List Int), n ≤ t.size → d = t.size - n → out.length + d ≤ t.size →
    ∃ v, Ev (fun k => name_Read.l0 k t out n) v ∧ Ev (fun k => colloquyref02_Read.l0 k t out n) v := by
  intro d
  induction d using Nat.strongRecOn with
  | ind d ih =>
    intro n out hn hd ho
    by_cases hlt : n < t.size
    · by_cases hc : bt t n = 92
      · by_cases hb : n + 2 < t.size
        · have e1 : wrap64 ((n : Int) + 1) = ((n + 1 : Nat) : Int) := by unfold wrap64; omega
          have e2 : wrap64 ((n : Int) + 2) = ((n + 2 : Nat) : Int) := by unfold wrap64; omega
          have e3 : wrap64 ((n : Int) + 3) = ((n + 3 : Nat) : Int) := by unfold wrap64; omega
          have e4 : wrap64 (((n + 2 : Nat) : Int) + 1) = ((n + 3 : Nat) : Int) := by unfold wrap64; omega
          have hi := ixd_range t ((n + 1 : Nat) : Int)
          have lo := ixd_range t ((n + 2 : Nat) : Int)
          by_cases h1 : ixd (bt t ((n + 1 : Nat) : Int)) < 0
          · refine ⟨(⟨#[]⟩, false), Ev.step (f := fun _ => some (⟨#[]⟩, false)) (fun k => ?_) (Ev.now _), ?_⟩
            · simp only [name_Read.l0]
              rw [if_pos (by omega), if_pos (by omega), if_pos hc, e2, e1, if_neg (by omega), if_pos (by omega), if_pos (by omega), index_eq, index_eq]
              simp only [Option.bind_some]
              rw [if_pos (by omega), if_pos (by omega), if_pos h1]
            · refine Ev.step (f := fun k => (colloquyref02_unhex.f k (bt t ((n + 1 : Nat) : Int))).bind fun t152 => (if t152 < 0 then (colloquyref02_Read.j1 k t out n true) else (if 0 ≤ (wrap64 ((n : Int) + 2)) then (if (wrap64 ((n : Int) + 2)) < (t.size : Int) then ((colloquyref02_unhex.f k (bt t (wrap64 ((n : Int) + 2)))).bind fun t153 => (colloquyref02_Read.j1 k t out n (decide (t153 < 0)))) else (none)) else (none)))) (fun k => ?_) ?_
              · simp only [colloquyref02_Read.l0]
                rw [if_pos (by omega), if_pos (by omega), if_pos hc, e3, e1, if_neg (by omega), if_pos (by omega), if_pos (by omega)]
              · refine Ev.bind (unhex_ev t _) (Ev.congr (fun k => if_pos h1) (Ev.step (f := fun _ => some (⟨#[]⟩, false)) (fun k => ?_) (Ev.now _)))
                simp only [colloquyref02_Read.j1]
                rw [if_pos (by trivial)]
          · by_cases h2 : ixd (bt t ((n + 2 : Nat) : Int)) < 0
            · refine ⟨(⟨#[]⟩, false), Ev.step (f := fun _ => some (⟨#[]⟩, false)) (fun k => ?_) (Ev.now _), ?_⟩
              · simp only [name_Read.l0]
                rw [if_pos (by omega), if_pos (by omega), if_pos hc, e2, e1, if_neg (by omega), if_pos (by omega), if_pos (by omega), index_eq, index_eq]
                simp only [Option.bind_some]
                rw [if_pos (by omega), if_pos (by omega), if_neg h1, if_pos h2]
              · refine Ev.step (f := fun k => (colloquyref02_unhex.f k (bt t ((n + 1 : Nat) : Int))).bind fun t152 => (if t152 < 0 then (colloquyref02_Read.j1 k t out n true) else ((colloquyref02_unhex.f k (bt t ((n + 2 : Nat) : Int))).bind fun t153 => (colloquyref02_Read.j1 k t out n (decide (t153 < 0)))))) (fun k => ?_) ?_
                · simp only [colloquyref02_Read.l0]
                  rw [if_pos (by omega), if_pos (by omega), if_pos hc, e3, e1, e2, if_neg (by omega), if_pos (by omega), if_pos (by omega)]
                  congr 1
                  funext t152
                  rw [if_pos (c := (0 : Int) ≤ ((n + 2 : Nat) : Int)) (by omega), if_pos (c := ((n + 2 : Nat) : Int) < (t.size : Int)) (by omega)]
                · refine Ev.bind (unhex_ev t _) (Ev.congr (fun k => if_neg h1) (Ev.bind (unhex_ev t _) (Ev.step (f := fun _ => some (⟨#[]⟩, false)) (fun k => ?_) (Ev.now _))))
                  simp only [colloquyref02_Read.j1]
                  rw [if_pos (decide_eq_true h2)]
            · obtain ⟨v, hv1, hv2⟩ := ih (d - 3) (by omega) (n + 3) (out ++ [16 * ixd (bt t ((n + 1 : Nat) : Int)) + ixd (bt t ((n + 2 : Nat) : Int))]) (by omega) (by omega) (by simp; omega)
              refine ⟨v, Ev.step (fun k => ?_) hv1, ?_⟩
              · simp only [name_Read.l0]
                rw [if_pos (by omega), if_pos (by omega), if_pos hc, e2, e1, if_neg (by omega), if_pos (by omega), if_pos (by omega), index_eq, index_eq]
                simp only [Option.bind_some]
                rw [if_pos (by omega), if_pos (by omega), if_neg h1, if_neg h2, if_pos (by omega), e4, or_eq _ _ (by omega) (by omega) (by omega) (by omega)]
              · refine Ev.step (f := fun k => (colloquyref02_unhex.f k (bt t ((n + 1 : Nat) : Int))).bind fun t152 => (if t152 < 0 then (colloquyref02_Read.j1 k t out n true) else ((colloquyref02_unhex.f k (bt t ((n + 2 : Nat) : Int))).bind fun t153 => (colloquyref02_Read.j1 k t out n (decide (t153 < 0)))))) (fun k => ?_) ?_
                · simp only [colloquyref02_Read.l0]
                  rw [if_pos (by omega), if_pos (by omega), if_pos hc, e3, e1, e2, if_neg (by omega), if_pos (by omega), if_pos (by omega)]
                  congr 1
                  funext t152
                  rw [if_pos (c := (0 : Int) ≤ ((n + 2 : Nat) : Int)) (by omega), if_pos (c := ((n + 2 : Nat) : Int) < (t.size : Int)) (by omega)]
                · refine Ev.bind (unhex_ev t _) (Ev.congr (fun k => if_neg h1) (Ev.bind (unhex_ev t _) ?_))
                  refine Ev.step (f := fun k => (colloquyref02_unhex.f k (bt t ((n + 1 : Nat) : Int))).bind fun t154 => (colloquyref02_unhex.f k (bt t ((n + 2 : Nat) : Int))).bind fun t155 => (colloquyref02_Read.l0 k t (out ++ [(wrap64 ((wrap64 (16 * t154)) + t155)) % 256]) ((n + 3 : Nat) : Int))) (fun k => ?_) ?_
                  · simp only [colloquyref02_Read.j1]
                    rw [if_neg (by rw [decide_eq_false h2]; simp), e3, e1, e2, if_pos (by omega), if_pos (by omega)]
                    congr 1
                    funext t154
                    rw [if_pos (c := (0 : Int) ≤ ((n + 2 : Nat) : Int)) (by omega), if_pos (c := ((n + 2 : Nat) : Int) < (t.size : Int)) (by omega)]
                    congr 1
                    funext t155
                    rw [if_pos (by omega)]
                  · refine Ev.bind (unhex_ev t _) (Ev.bind (unhex_ev t _) ?_)
                    rw [add_eq _ _ (by omega) (by omega) (by omega) (by omega)]
                    exact hv2
        · have e2 : wrap64 ((n : Int) + 2) = ((n + 2 : Nat) : Int) := by unfold wrap64; omega
          have e3 : wrap64 ((n : Int) + 3) = ((n + 3 : Nat) : Int) := by unfold wrap64; omega
          refine ⟨(⟨#[]⟩, false), Ev.step (f := fun _ => some (⟨#[]⟩, false)) (fun k => ?_) (Ev.now _), Ev.step (f := fun k => colloquyref02_Read.j1 k t out n true) (fun k => ?_) (Ev.step (f := fun _ => some (⟨#[]⟩, false)) (fun k => ?_) (Ev.now _))⟩
          · simp only [name_Read.l0]
            rw [if_pos (by omega), if_pos (by omega), if_pos hc, e2, if_pos (by omega)]
          · simp only [colloquyref02_Read.l0]
            rw [if_pos (by omega), if_pos (by omega), if_pos hc, e3, if_pos (by omega)]
          · simp only [colloquyref02_Read.j1]
            rw [if_pos (by trivial)]
      · have e : wrap64 ((n : Int) + 1) = ((n + 1 : Nat) : Int) := by unfold wrap64; omega
        obtain ⟨v, h1, h2⟩ := ih (d - 1) (by omega) (n + 1) (out ++ [bt t n]) (by omega) (by omega) (by simp; omega)
        refine ⟨v, Ev.step (fun k => ?_) h1, Ev.step (fun k => ?_) h2⟩
        · simp only [name_Read.l0]
          rw [if_pos (by omega), if_pos (by omega), if_neg hc, if_pos (by omega), e]
        · simp only [colloquyref02_Read.l0]
          rw [if_pos (by omega), if_pos (by omega), if_neg hc, if_pos (by omega), e]
    · by_cases hr : rightB (strOfNums out) = true
      · have hw := rwrite_ev (strOfNums out)
        refine ⟨if (wr (strOfNums out)).toList = t.toList then (strOfNums out, true) else (⟨#[]⟩, false), Ev.step (f := fun _ => some (if (wr (strOfNums out)).toList = t.toList then (strOfNums out, true) else (⟨#[]⟩, false))) (fun k => ?_) (Ev.now _), ?_⟩
        · simp only [name_Read.l0]
          rw [if_neg (by omega), right_eq, write_eq]
          simp only [Option.bind_some]
          rw [if_pos hr]
          split <;> rfl
        · refine Ev.step (f := fun k => (colloquyref02_Write.f k (strOfNums out)).bind fun t160 => (if t160.toList = t.toList then (some (strOfNums out, true)) else (some ((⟨#[]⟩ : ByteArray), false)))) (fun k => ?_) ?_
          · simp only [colloquyref02_Read.l0]
            rw [if_neg (by omega), rright_eq]
            simp only [Option.bind_some]
            rw [if_pos hr]
          · refine Ev.bind hw ?_
            split
            · exact Ev.now _
            · exact Ev.now _
      · refine ⟨(⟨#[]⟩, false), Ev.step (f := fun _ => some (⟨#[]⟩, false)) (fun k => ?_) (Ev.now _), Ev.step (f := fun _ => some (⟨#[]⟩, false)) (fun k => ?_) (Ev.now _)⟩
        · simp only [name_Read.l0]
          rw [if_neg (by omega), right_eq]
          simp only [Option.bind_some]
          rw [if_neg hr]
        · simp only [colloquyref02_Read.l0]
          rw [if_neg (by omega), rright_eq]
          simp only [Option.bind_some]
          rw [if_neg hr]
theorem bytes_eq {a b : ByteArray} (h : a.toList = b.toList) : a = b := by
  rw [ByteArray.toList_eq, ByteArray.toList_eq] at h
  exact ByteArray.ext (Array.ext' h)
theorem ev_one {α : Type} {g : Nat → Option α} {a b : α} (ha : Ev g a) (hb : Ev g b) : a = b := by
  obtain ⟨K, hK⟩ := ha
  obtain ⟨L, hL⟩ := hb
  have := (hK (max K L) (by omega)).symm.trans (hL (max K L) (by omega))
  exact Option.some.inj this
def nums (s : ByteArray) (n : Nat) : List Int := (List.range n).map fun i => bt s (i : Nat)
theorem nums_succ (s : ByteArray) (n : Nat) : nums s (n + 1) = nums s n ++ [bt s (n : Nat)] := by
  unfold nums
  rw [List.range_succ]
  simp
theorem nums_str (s : ByteArray) : (strOfNums ((List.range s.size).map fun i => bt s (i : Nat))).data.toList = s.data.toList := by
  rw [strOfNums_data, List.map_map]
  refine List.ext_getElem (by rw [List.length_map, List.length_range]; rfl) fun i h1 h2 => ?_
  have hi : i < s.size := by simpa using h1
  rw [List.getElem_map, List.getElem_range]
  have hb : bt s (i : Int) = ((s[i]'hi).toNat : Int) := (bt_at s i (by simpa using hi)).symm
  show UInt8.ofNat (bt s (i : Int)).toNat = _
  rw [hb, Int.toNat_natCast, UInt8.ofNat_toNat]
  rfl
theorem nums_self (s : ByteArray) : strOfNums (nums s s.size) = s := ByteArray.ext (Array.ext' (nums_str s))
theorem nums_len (s : ByteArray) (n : Nat) : (nums s n).length = n := by
  unfold nums
  rw [List.length_map, List.length_range]
theorem bt_mid {W xs ys : List Int} {x : Int} (hW : W = xs ++ x :: ys) (hr : ∀ x ∈ W, 0 ≤ x ∧ x ≤ 255) (i : Nat) (hi : i = xs.length) : bt (strOfNums W) (i : Nat) = x := by
  subst hi
  have hlt : xs.length < (strOfNums W).size := by
    rw [strOfNums_size, hW]
    simp
  rw [← bt_at (strOfNums W) (xs.length : Nat) (by simpa using hlt)]
  have hx := hr x (by rw [hW]; simp)
  have hg : (strOfNums W).data.toList[xs.length]? = some (UInt8.ofNat x.toNat) := by
    rw [strOfNums_data, hW]
    simp
  have hg2 : (strOfNums W)[xs.length]'hlt = UInt8.ofNat x.toNat := by
    have h3 : (strOfNums W).data.toList[xs.length]? = some ((strOfNums W)[xs.length]'hlt) := by
      rw [Array.getElem?_toList]
      exact Array.getElem?_eq_getElem hlt
    rw [h3] at hg
    exact Option.some.inj hg
  show (((strOfNums W)[xs.length]'hlt).toNat : Int) = x
  rw [hg2, UInt8.toNat_ofNat']
  omega
theorem nmPre_from (s : ByteArray) (n : Nat) : ∀ m, ∃ rest, nmPre s (n + m) = nmPre s n ++ rest := by
  intro m
  induction m with
  | zero => exact ⟨[], by simp⟩
  | succ m ih =>
    obtain ⟨rest, h⟩ := ih
    exact ⟨rest ++ nmStep s (n + m), by rw [← Nat.add_assoc, nmPre_succ, h, List.append_assoc]⟩
theorem nmPre_at (s : ByteArray) (n : Nat) (hn : n < s.size) : ∃ rest, nmPre s s.size = nmPre s n ++ (nmStep s n ++ rest) := by
  obtain ⟨rest, h⟩ := nmPre_from s (n + 1) (s.size - (n + 1))
  refine ⟨rest, ?_⟩
  rw [show n + 1 + (s.size - (n + 1)) = s.size by omega] at h
  rw [h, nmPre_succ, List.append_assoc]
theorem ixd_dig_nat : ∀ n : Nat, n < 16 → ixd (bt nmDig (n : Int)) = (n : Int) ∧ 33 ≤ bt nmDig (n : Int) ∧ bt nmDig (n : Int) ≤ 126 := by decide +kernel
theorem ixd_dig (x : Int) (h0 : 0 ≤ x) (h1 : x < 16) : ixd (bt nmDig x) = x ∧ 33 ≤ bt nmDig x ∧ bt nmDig x ≤ 126 := by
  obtain ⟨n, rfl⟩ := Int.eq_ofNat_of_zero_le h0
  exact ixd_dig_nat n (by omega)
theorem rd_plain (t : ByteArray) (ht : t.size ≤ 1000) (out : List Int) (ho : out.length ≤ 1000) (p : Nat) (c : Int) (hp : p < t.size) (hb : bt t p = c) (hc : c ≠ 92) {v : ByteArray × Bool}
    (h : Ev (fun k => name_Read.l0 k t (out ++ [c]) ((p + 1 : Nat) : Int)) v) : Ev (fun k => name_Read.l0 k t out p) v := by
  have e : wrap64 ((p : Int) + 1) = ((p + 1 : Nat) : Int) := by unfold wrap64; omega
  refine Ev.step (fun k => ?_) h
  simp only [name_Read.l0]
  rw [if_pos (by omega), if_pos (by omega), hb, if_neg hc, if_pos (by omega), e]
theorem rd_esc (t : ByteArray) (ht : t.size ≤ 1000) (out : List Int) (ho : out.length ≤ 1000) (p : Nat) (a b : Int) (hp : p + 2 < t.size) (hb : bt t p = 92)
    (h1 : ixd (bt t ((p + 1 : Nat) : Int)) = a) (h2 : ixd (bt t ((p + 2 : Nat) : Int)) = b) (a0 : 0 ≤ a) (a1 : a < 16) (b0 : 0 ≤ b) (b1 : b < 16) {v : ByteArray × Bool}
    (h : Ev (fun k => name_Read.l0 k t (out ++ [16 * a + b]) ((p + 3 : Nat) : Int)) v) : Ev (fun k => name_Read.l0 k t out p) v := by
  have H1 := Aside0.mk h1
  have H2 := Aside0.mk h2
  clear h1 h2
  have e1 : wrap64 ((p : Int) + 1) = ((p + 1 : Nat) : Int) := by unfold wrap64; omega
  have e2 : wrap64 ((p : Int) + 2) = ((p + 2 : Nat) : Int) := by unfold wrap64; omega
  have e4 : wrap64 (((p + 2 : Nat) : Int) + 1) = ((p + 3 : Nat) : Int) := by unfold wrap64; omega
  refine Ev.step (fun k => ?_) h
  simp only [name_Read.l0]
  rw [if_pos (by omega), if_pos (by omega), if_pos hb, e2, e1, if_neg (by omega), if_pos (by omega), if_pos (by omega), index_eq, index_eq]
  simp only [Option.bind_some]
  rw [if_pos (by omega), if_pos (by omega), H1.out, H2.out, if_neg (by omega), if_neg (by omega), if_pos (by omega), e4, or_eq _ _ a0 a1 b0 b1]
theorem rd_end (t : ByteArray) (out : List Int) (p : Nat) (hp : t.size ≤ p) (s : ByteArray) (hs : strOfNums out = s) (hr : rightB s = true) (hw : wr s = t) : Ev (fun k => name_Read.l0 k t out p) (s, true) := by
  refine Ev.step (f := fun _ => some (s, true)) (fun k => ?_) (Ev.now _)
  simp only [name_Read.l0]
  rw [if_neg (by omega), hs, right_eq, write_eq]
  simp only [Option.bind_some]
  rw [if_pos hr, hw, if_pos rfl]
theorem read_back (s : ByteArray) (hs : s.size ≤ 80) (h1 : 1 ≤ s.size) (t : ByteArray) (ht : t = strOfNums (nmPre s s.size)) : ∀ (d n : Nat), n ≤ s.size → d = s.size - n →
    Ev (fun k => name_Read.l0 k t (nums s n) ((nmPre s n).length : Nat)) (s, true) := by
  have hr := nmPre_range s s.size
  have hsz : t.size = (nmPre s s.size).length := by rw [ht, strOfNums_size]
  have ht1 : t.size ≤ 1000 := by
    have := nmPre_len s s.size
    omega
  intro d
  induction d with
  | zero =>
    intro n hn hd
    obtain rfl : n = s.size := by omega
    exact rd_end t _ _ (by omega) s (nums_self s) (decide_eq_true ⟨h1, hs⟩) (by rw [ht]; exact if_pos ⟨h1, hs⟩)
  | succ d ih =>
    intro n hn hd
    have hlt : n < s.size := by omega
    obtain ⟨rest, hW⟩ := nmPre_at s n hlt
    have hi := ih (n + 1) (by omega) (by omega)
    have hst := nmStep_eq s n hlt (by omega)
    have hl : (nums s n).length ≤ 1000 := by rw [nums_len]; omega
    rw [nums_succ, nmPre_succ, List.length_append] at hi
    by_cases hp : plainV s n = true
    · rw [if_pos hp] at hst
      rw [hst] at hW hi
      have hb := bt_mid (W := nmPre s s.size) (xs := nmPre s n) (x := bt s n) (ys := rest) hW hr _ rfl
      have hc : bt s n ≠ 92 := by
        have hpv := of_decide_eq_true hp
        clear hb hi
        generalize bt s n = c at hpv ⊢
        omega
      have hlw : (nmPre s n).length < t.size := by
        rw [hsz, hW, List.length_append, List.length_append]
        exact Nat.lt_add_of_pos_right (Nat.lt_of_lt_of_le Nat.one_pos (Nat.le_add_right _ _))
      rw [← ht] at hb
      exact rd_plain t ht1 _ hl _ _ hlw hb hc hi
    · rw [if_neg hp] at hst
      rw [hst] at hW hi
      have hb := bt_mid (W := nmPre s s.size) (xs := nmPre s n) (x := 92) (ys := _) hW hr _ rfl
      have hb1 := bt_mid (W := nmPre s s.size) (xs := nmPre s n ++ [92]) (x := bt nmDig (bt s n / 16)) (ys := bt nmDig (bt s n % 16) :: rest) (by rw [hW]; simp) hr ((nmPre s n).length + 1) (by rw [List.length_append]; rfl)
      have hb2 := bt_mid (W := nmPre s s.size) (xs := nmPre s n ++ [92, bt nmDig (bt s n / 16)]) (x := bt nmDig (bt s n % 16)) (ys := rest) (by rw [hW]; simp) hr ((nmPre s n).length + 2) (by rw [List.length_append]; rfl)
      have hlw : (nmPre s n).length + 2 < t.size := by
        rw [hsz, hW, List.length_append, List.length_append]
        refine Nat.add_lt_add_left ?_ _
        exact Nat.lt_of_lt_of_le (show 2 < 3 by decide) (Nat.le_add_right 3 _)
      rw [← ht] at hb hb1 hb2
      obtain ⟨c0, c1⟩ := bt_range s n
      have r0 : 0 ≤ bt s n / 16 ∧ bt s n / 16 < 16 ∧ 0 ≤ bt s n % 16 ∧ bt s n % 16 < 16 ∧ 16 * (bt s n / 16) + bt s n % 16 = bt s n := by
        clear hb hb1 hb2 hi hW hst
        generalize bt s n = c at c0 c1 ⊢
        omega
      obtain ⟨q0, q1, q2, q3, q4⟩ := r0
      refine rd_esc t ht1 _ hl _ (bt s n / 16) (bt s n % 16) hlw hb (by rw [hb1]; exact (ixd_dig _ q0 q1).1) (by rw [hb2]; exact (ixd_dig _ q2 q3).1) q0 q1 q2 q3 ?_
      rw [q4]
      exact hi
theorem back_ev (s : ByteArray) (h : 1 ≤ s.size ∧ s.size ≤ 80) : Ev (fun k => name_Read.f k (wr s)) (s, true) := by
  have hw : wr s = strOfNums (nmPre s s.size) := if_pos h
  rw [hw]
  exact read_back s h.2 h.1 _ rfl s.size 0 (by omega) (by omega)
theorem step_plain (s : ByteArray) (i : Nat) (hi : i < s.size) (hm : s.size ≤ 80) : ∀ x ∈ nmStep s i, 32 ≤ x ∧ x ≤ 126 := by
  intro x hx
  rw [nmStep_eq s i hi (by omega)] at hx
  obtain ⟨c0, c1⟩ := bt_range s i
  split at hx
  · rename_i hp
    have hpv := of_decide_eq_true hp
    simp only [List.mem_singleton] at hx
    subst hx
    omega
  · obtain ⟨_, x1, x2⟩ := ixd_dig (bt s i / 16) (by omega) (by omega)
    obtain ⟨_, y1, y2⟩ := ixd_dig (bt s i % 16) (by omega) (by omega)
    simp only [List.mem_cons, List.not_mem_nil, or_false] at hx
    rcases hx with rfl | rfl | rfl <;> omega
theorem pre_plain (s : ByteArray) (hm : s.size ≤ 80) (n : Nat) (hn : n ≤ s.size) : ∀ x ∈ nmPre s n, 32 ≤ x ∧ x ≤ 126 := by
  intro x hx
  obtain ⟨i, hi, h⟩ := List.mem_flatMap.1 hx
  exact step_plain s i (by have := List.mem_range.1 hi; omega) hm x h
end Go.Proofs.YtljmbgilcngfgaaDoor.Pure
end
namespace Go.Proofs.YtljmbgilcngfgaaDoor.PA
open Go.RowKit Go.Proofs.YtljmbgilcngfgaaDoorW.PrintWords Go.Proofs.YtljmbgilcngfgaaDoorW.PrintLast Go.Proofs.YtljmbgilcngfgaaDoorW.PrintMore
set_option linter.unusedVariables false
set_option linter.unusedSimpArgs false
set_option maxRecDepth 100000
set_option maxHeartbeats 8000000
section
structure Flat {α : Type} (d : Kd α) (enc : α → List Value) : Prop where
  M : ∀ w base ok x cs, d.M w base ok x cs ↔ cs = enc x
  K : ∀ w x cs, d.K w x cs → cs = enc x
theorem Flat.len {α : Type} {d : Kd α} {enc : α → List Value} (h : Flat d enc) (x : α) : (enc x).length = d.sz := d.K_len (d.K_of_M ((h.M default 0 (fun _ => True) x _).2 rfl))
theorem reps_set {α : Type} {R : α → List Value → Prop} {size : Nat} {ps : List α} {cs : List Value} (h : Reps R size ps cs) (i f : Nat) (u : Value) (p' : α) (hi : i < ps.length) (hf : f < size) (hp : R p' (((cs.drop (i * size)).take size).set f u)) : Reps R size (ps.set i p') (cs.set (i * size + f) u) := by
  refine ⟨by simp [h.1], fun j q hq => ?_⟩
  have hj : j < ps.length := by have := (List.getElem?_eq_some_iff.1 hq).1; simpa using this
  by_cases e : j = i
  · subst e
    have : q = p' := by rw [List.getElem?_set_self hj] at hq; exact (Option.some.inj hq).symm
    subst this
    have e2 : ((cs.set (j * size + f) u).drop (j * size)).take size = ((cs.drop (j * size)).take size).set f u := by
      rw [List.drop_set, if_neg (by omega), show j * size + f - j * size = f by omega, List.take_set]
    rw [e2]
    exact hp
  · rw [List.getElem?_set_ne (fun h => e h.symm)] at hq
    have e2 : ((cs.set (i * size + f) u).drop (j * size)).take size = (cs.drop (j * size)).take size := by
      rcases Nat.lt_or_gt_of_ne e with h1 | h1
      · have : j * size + size ≤ i * size := by rw [← Nat.succ_mul]; exact Nat.mul_le_mul_right _ h1
        rw [List.drop_set, if_neg (by omega), List.take_set, List.set_eq_of_length_le (by rw [List.length_take]; omega)]
      · have : i * size + size ≤ j * size := by rw [← Nat.succ_mul]; exact Nat.mul_le_mul_right _ h1
        rw [List.drop_set, if_pos (by omega)]
    rw [e2]
    exact h.2 j q hq
section
variable {α : Type} {d : Kd α} {enc : α → List Value} {e base n c : Nat} {S : Nat → Prop} {xs : List α} {w : World} {ad : Addr}
theorem rowf_cells {z : α} {cs : List Value} (h : d.R e w base S (.slice (some ad) n c) xs) (i : Int) (h0 : 0 ≤ i) (h1 : i < xs.length) (hK : ∀ w cs', d.K w (xs.getD i.toNat z) cs' → cs' = cs) : ∀ j u, cs[j]? = some u → w.cell? ((ad.add (i.toNat * d.sz)).add j) = some u := by
  obtain ⟨hn, _, hC⟩ := Kd.R_reads' h
  obtain ⟨ad', cs', hA, hl, hK', hc⟩ := Kd.C_get hC z i h0 (by omega)
  injection hA with hA
  subst hA
  have := hK w cs' hK'
  subst this
  exact cellsn hc
theorem rowf_put (hf : Flat d enc) (h : d.R e w base S (.slice (some ad) n c) xs) (z : α) (i : Int) (f : Nat) (u : Value) (x' : α) (h0 : 0 ≤ i) (h1 : i < xs.length) (hfs : f < d.sz) (hx : (enc (xs.getD i.toNat z)).set f u = enc x') :
    d.R e (w.setCell ((ad.add (i.toNat * d.sz)).add f) u) base S (.slice (some ad) n c) (xs.set i.toNat x') ∧ S ((ad.add (i.toNat * d.sz)).add f).block ∧ w.frozen? ((ad.add (i.toNat * d.sz)).add f) = false := by
  obtain ⟨g, cap, hv, _⟩ := Kd.R_form h (by omega)
  injection hv with hA hn hc
  injection hA with hA
  subst hA hn hc
  obtain ⟨hok, inner, ho, hR⟩ := h
  have ea : ((⟨g, 0, none⟩ : Addr).add (i.toNat * d.sz)).add f = ⟨g, i.toNat * d.sz + f, none⟩ := by
    rw [add_plain]
    unfold Addr.add
    split <;> simp_all
  rw [ea]
  obtain ⟨ho', hg'⟩ := ho.stored (i.toNat * d.sz + f) u
  have hl : i.toNat < xs.length := by omega
  refine ⟨⟨hok, inner.set (i.toNat * d.sz + f) u, by rw [List.length_set]; exact ho', ?_⟩, hok g rfl, ho.frozenAt _⟩
  have hR2 : Reps (d.M (w.setCell ⟨g, i.toNat * d.sz + f, none⟩ u) base (fun k => S k ∧ some k ≠ (Value.slice (some ⟨g, 0, none⟩) xs.length c).ownBlock)) d.sz xs inner := hR.imp_ fun p c hp => (hf.M _ _ _ _ _).2 ((hf.M _ _ _ _ _).1 hp)
  refine reps_set hR2 i.toNat f u x' hl hfs ((hf.M _ _ _ _ _).2 ?_)
  have hq := (hf.M _ _ _ _ _).1 (hR.2 i.toNat _ (List.getElem?_eq_getElem hl))
  rw [hq, ← hx]
  simp [List.getD_eq_getElem?_getD, List.getElem?_eq_getElem hl]
end
theorem Own.cut_row {α : Type} {d : Kd α} {e base n c : Nat} {S : Nat → Prop} {A : Option Addr} {xs : List α} {w0 w : World} {L : List Chunk} (h : Own w0 w L) (i : Nat) (hi : L[i]? = some (Chunk.row d e base S (.slice A n c) xs)) (m : Nat) (hm : m ≤ xs.length) : Own w0 w (L.set i (Chunk.row d e base S (.slice A (xs.take m).length c) (xs.take m))) := by
  rw [show (xs.take m).length = m by rw [List.length_take]; omega]
  exact h.mapc i hi (fun _ hk => hk) (fun _ hr => Kd.R_take hr hm)
section
variable {D : List Deferred} {P : Program} {ops : Array Oper} {Q : Exit → Act → World → Prop} {rest : List Oper} {o : Oper} {N : Nat} {a : Act} {F : List (Nat × Value)} {w w0 : World} {L : List Chunk} {α : Type}
theorem gw_rowf {d : Kd α} {enc : α → List Value} (hfl : Flat d enc) {e base c n : Nat} {S : Nat → Prop} {ad : Addr} {xs : List α} {t : TypeId} {x y : Operand} {it : Int} {v : Value} (z x' : α) (f : Nat) (i : Nat) (HF : FrD D N a F) (HO : Own w0 w L) (hi : L[i]? = some (Chunk.row d e base S (.slice (some ad) n c) xs)) (hw : Region.wanted o (yielded ops a.tmps) = true) (hd : o.dst = none)
    (hS : ∀ w, (sizeOf t).run P w = .ok 1 w) (h0 : 0 ≤ it) (h1 : it < xs.length) (hfs : f < d.sz) (ho : o.op = .store t x y) (hx : a.eval x = .pointer (some ((ad.add (it.toNat * d.sz)).add f))) (hy : a.eval y = v) (hv : v.oneCell' = true) (he : (enc (xs.getD it.toNat z)).set f v = enc x')
    (kk : ∀ a' w1, FrD D N a' F → Own w0 w1 (L.set i (Chunk.row d e base S (.slice (some ad) n c) (xs.set it.toNat x'))) → wpList P ops Q rest a' w1) : wpList P ops Q (o :: rest) a w := by
  have hR : d.R e w base S (.slice (some ad) n c) xs := HO.get i hi
  have hp := rowf_put hfl hR z it f v x' h0 h1 hfs he
  have hl := hfl.len (xs.getD it.toNat z)
  have hc := rowf_cells (z := z) hR it h0 h1 (fun w cs' hk => hfl.K _ _ _ hk) f _ (List.getElem?_eq_getElem (show f < (enc (xs.getD it.toNat z)).length by omega))
  refine gw_skip HF hw hd (op_store1 hS ho hx hy hv hc hp.2.2) fun a' HF' => kk a' _ HF' (HO.calls (cs := []) i hi ?_)
  refine Out.one (c := Chunk.row d e base S (.slice (some ad) n c) (xs.set it.toNat x')) ((Out.refl w S).setCell (.inl hp.2.1) _) hp.1 ?_
  intro q hq
  exact ⟨.inl hq, by have := (HO.lt i hi hq).2; simpa [World.setCell] using this⟩
end
end
section
structure Sl where
  A : Option Addr
  n : Nat
  c : Nat
def sv (s : Sl) : Value := .slice s.A s.n s.c
def kSl : Kd Sl := Kd.scalar sv (fun _ => rfl)
structure W2 where
  f0 : ByteArray
  f1 : Sl
def zW : W2 := ⟨⟨#[]⟩, ⟨none, 0, 0⟩⟩
def kW : Kd W2 := Kd.iso (Kd.pair Kd.string kSl) (fun x : W2 => (x.f0, x.f1))
def encW (x : W2) : List Value := [.string x.f0, .slice x.f1.A x.f1.n x.f1.c]
theorem kW_open {w : World} {x : W2} {cs : List Value} (h : kW.K w x cs) : cs = [.string x.f0, .slice x.f1.A x.f1.n x.f1.c] := by
  obtain ⟨_, _, rfl, rfl, rfl⟩ := h
  rfl
theorem kW_mkM (w : World) (base : Nat) (ok : Nat → Prop) (x : W2) : kW.M w base ok x (encW x) := ⟨[_], [_], rfl, rfl, rfl⟩
theorem flatW : Flat kW encW := ⟨fun w base ok x cs => ⟨fun h => by
  obtain ⟨_, _, rfl, rfl, rfl⟩ := h
  rfl, fun h => h ▸ kW_mkM w base ok x⟩, fun w x cs h => kW_open h⟩
abbrev KR := k49
abbrev KP := k46
structure RelP (w : World) (base : Nat) (S : Nat → Prop) (x : W2) (p : PP) : Prop where
  g : x.f0 = p.f0
  n : x.f1.n = p.f1.length
  R : KR.R 49 w base S (.slice x.f1.A x.f1.n x.f1.c) p.f1
theorem RelP.mono {w : World} {base : Nat} {S S' : Nat → Prop} {x : W2} {p : PP} (h : RelP w base S x p) (hS : ∀ k, S k → S' k) : RelP w base S' x p := ⟨h.g, h.n, Kd.R_mono h.R hS⟩
theorem RelP.move {w w' : World} {base : Nat} {S : Nat → Prop} {x : W2} {p : PP} (h : RelP w base S x p) (hm : ∀ k, S k → w'.heap[k]? = w.heap[k]?) : RelP w' base S x p := ⟨h.g, h.n, Kd.R_move h.R hm⟩
theorem RelP.bound {w : World} {base : Nat} {S : Nat → Prop} {x : W2} {p : PP} (h : RelP w base S x p) : RelP w base (fun k => S k ∧ k < w.heap.size) x p := ⟨h.g, h.n, Kd.R_mono (Kd.R_bound h.R) fun k hk => ⟨hk.1, hk.2.2.1⟩⟩
theorem RelP.K {w : World} {base : Nat} {S : Nat → Prop} {x : W2} {p : PP} (h : RelP w base S x p) : KP.K w p [.string x.f0, .slice x.f1.A x.f1.n x.f1.c] := by
  obtain ⟨hn, hc, hC⟩ := Kd.R_reads' h.R
  have := k46_mk w p (A1 := x.f1.A) (c1 := x.f1.c) (by omega) hC
  rw [h.g, h.n]
  exact this
def dnP (w : World) (base : Nat) (S : Nat → Prop) (xs : List W2) (ps : List PP) : Prop := xs.length = ps.length ∧ ∀ (j : Nat) x p, xs[j]? = some x → ps[j]? = some p → RelP w base S x p
theorem dnP.snoc {w : World} {base : Nat} {S : Nat → Prop} {xs : List W2} {ps : List PP} {x : W2} {p : PP} (h : dnP w base S xs ps) (hr : RelP w base S x p) : dnP w base S (xs ++ [x]) (ps ++ [p]) := by
  refine ⟨by simp [h.1], fun j y q hy hq => ?_⟩
  by_cases hj : j < xs.length
  · rw [List.getElem?_append_left hj] at hy
    rw [List.getElem?_append_left (by rw [← h.1]; exact hj)] at hq
    exact h.2 j y q hy hq
  · rw [List.getElem?_append_right (by omega)] at hy
    rw [List.getElem?_append_right (by rw [← h.1]; omega), ← h.1] at hq
    have : j - xs.length = 0 := by
      rcases Nat.eq_zero_or_pos (j - xs.length) with e | e
      · exact e
      · rw [List.getElem?_eq_none (by simp; omega)] at hy; cases hy
    rw [this] at hy hq
    obtain rfl : x = y := by simpa using hy
    obtain rfl : p = q := by simpa using hq
    exact hr
def Chunk.dn (base : Nat) (S : Nat → Prop) (xs : List W2) (ps : List PP) : Chunk := ⟨S, fun w => dnP w base S xs ps, fun h hm => ⟨h.1, fun j x p hx hp => (h.2 j x p hx hp).move hm⟩⟩
theorem parts_C {w : World} {A : Option Addr} {n base : Nat} {S : Nat → Prop} {xs : List W2} {ps : List PP} (h : kW.C w A n xs) (hd : dnP w base S xs ps) : KP.C w A n ps := by
  refine ⟨by rw [← hd.1]; exact h.1, h.2.1, fun hn => ?_⟩
  obtain ⟨ad, hA, hc⟩ := h.2.2 hn
  refine ⟨ad, hA, fun j p hj => ?_⟩
  have hlt : j < xs.length := by rw [hd.1]; exact (List.getElem?_eq_some_iff.1 hj).1
  obtain ⟨c, hl, hk, hcc⟩ := hc j xs[j] (List.getElem?_eq_getElem hlt)
  refine ⟨c, hl, ?_, hcc⟩
  rw [kW_open hk]
  exact (hd.2 j _ p (List.getElem?_eq_getElem hlt) hj).K
section
variable {w0 w w' : World} {L : List Chunk} {base g : Nat} {S Sr Sd Sl : Nat → Prop} {su bo : ByteArray} {ps qs : List PP} {xs : List RS} {Wd : List W2}
theorem all_two {c d : Chunk} (k : Nat) : (Chunk.all [c, d]).S k ↔ c.S k ∨ d.S k := by
  constructor
  · rintro ⟨e, he, hk⟩
    simp only [List.mem_cons, List.mem_nil_iff, or_false] at he
    rcases he with rfl | rfl
    · exact .inl hk
    · exact .inr hk
  · rintro (hk | hk)
    · exact ⟨_, List.mem_cons_self .., hk⟩
    · exact ⟨d, by simp, hk⟩
theorem Own.dn_push {A : Option Addr} {c : Nat} {gn : ByteArray} (h : Own w0 w (Chunk.row KR 49 base Sl (.slice A xs.length c) xs :: Chunk.dn base Sd Wd qs :: L)) : Own w0 w (Chunk.dn base (fun k => Sl k ∨ Sd k) (Wd ++ [⟨gn, ⟨A, xs.length, c⟩⟩]) (qs ++ [⟨gn, xs⟩]) :: L) := by
  have hb : Own w0 w (Chunk.all [_, _] :: L) := Own.bundle (A := [_, _]) h
  refine hb.mapc (c' := Chunk.dn base (fun k => Sl k ∨ Sd k) (Wd ++ [⟨gn, ⟨A, xs.length, c⟩⟩]) (qs ++ [⟨gn, xs⟩])) 0 rfl (fun k hk => (all_two k).2 hk) fun w_ hP => ?_
  have h1 : KR.R 49 w_ base Sl (.slice A xs.length c) xs := all_P hP 0 rfl
  have h2 : dnP w_ base Sd Wd qs := all_P hP 1 rfl
  exact dnP.snoc ⟨h2.1, fun j x p hx hp => (h2.2 j x p hx hp).mono fun k hk => .inr hk⟩ ⟨rfl, rfl, Kd.R_mono h1 fun k hk => .inl hk⟩
end
structure SmX where
  A : Option Addr
  c : Nat
  Wd : List W2
  qs : List PP
  lg : Option ByteArray
  xs : List RS
  A2 : Option Addr
  c2 : Nat
  Sr : Nat → Prop
  Sd : Nat → Prop
  Sl : Nat → Prop
def tW : Option ByteArray → Sl → List W2
  | none, _ => []
  | some g, s => [⟨g, s⟩]
def tP : Option ByteArray → List RS → List PP
  | none, _ => []
  | some g, xs => [⟨g, xs⟩]
def SmX.W (X : SmX) : List W2 := X.Wd ++ tW X.lg ⟨X.A2, X.xs.length, X.c2⟩
def SmX.ps (X : SmX) : List PP := X.qs ++ tP X.lg X.xs
def SmX.ok (X : SmX) : Prop := X.lg = none → X.Wd = [] ∧ X.qs = [] ∧ X.xs = []
def spL (base : Nat) (X : SmX) : List Chunk := [Chunk.row kW 46 base X.Sr (.slice X.A X.W.length X.c) X.W, Chunk.dn base X.Sd X.Wd X.qs, Chunk.row KR 49 base X.Sl (.slice X.A2 X.xs.length X.c2) X.xs]
def smL (base g : Nat) (su bo : ByteArray) (X : SmX) : List Chunk := Chunk.blk g (.cells #[.string su, .string bo, .slice X.A X.W.length X.c] 24 (0, 0)) :: spL base X
def Chunk.sp (base : Nat) (S : Nat → Prop) (A : Option Addr) (c : Nat) (ps : List PP) : Chunk :=
  ⟨S, fun w => ∃ X : SmX, (X.A = A ∧ X.c = c ∧ X.ps = ps) ∧ X.ok ∧ S = (Chunk.all (spL base X)).S ∧ (Chunk.all (spL base X)).P w, fun h hm => by
    obtain ⟨X, h1, h0, h2, h3⟩ := h
    exact ⟨X, h1, h0, h2, (Chunk.all _).move h3 (fun k hk => hm k (h2 ▸ hk))⟩⟩
theorem all_mem {l : List Chunk} {i : Nat} {c : Chunk} (hi : l[i]? = some c) {k : Nat} (hk : c.S k) : (Chunk.all l).S k := ⟨c, List.mem_of_getElem? hi, hk⟩
theorem spL_rel {base : Nat} {X : SmX} {w : World} (h : (Chunk.all (spL base X)).P w) : dnP w base (Chunk.all (spL base X)).S X.W X.ps := by
  have h2 : dnP w base X.Sd X.Wd X.qs := all_P h 1 rfl
  have h3 : KR.R 49 w base X.Sl (.slice X.A2 X.xs.length X.c2) X.xs := all_P h 2 rfl
  have e2 : dnP w base (Chunk.all (spL base X)).S X.Wd X.qs := ⟨h2.1, fun j x p hx hp => (h2.2 j x p hx hp).mono fun k hk => all_mem (i := 1) rfl hk⟩
  unfold SmX.W SmX.ps
  cases hl : X.lg with
  | none =>
    show dnP w base _ (X.Wd ++ []) (X.qs ++ [])
    rw [List.append_nil, List.append_nil]
    exact e2
  | some g => exact e2.snoc ⟨rfl, rfl, Kd.R_mono h3 fun k hk => all_mem (i := 2) rfl hk⟩
theorem spL_F {base : Nat} {X : SmX} {w : World} (h : (Chunk.all (spL base X)).P w) : X.W.length = X.ps.length ∧ X.ps.length ≤ X.c ∧ Kd.F KP w (Chunk.all (spL base X)).S X.A X.ps.length X.ps ∧ ∀ ad, X.A = some ad → (Chunk.all (spL base X)).S ad.block := by
  have h1 : kW.R 46 w base X.Sr (.slice X.A X.W.length X.c) X.W := all_P h 0 rfl
  have hd := spL_rel h
  obtain ⟨hn, hc, hC⟩ := Kd.R_reads' h1
  have h1b := Kd.R_mono (Kd.R_bound h1) (ok' := fun k => X.Sr k ∧ k < w.heap.size) fun k hk => ⟨hk.1, hk.2.2.1⟩
  refine ⟨hd.1, by rw [← hd.1]; exact hc, fun W' hW => ?_, fun ad e => all_mem (i := 0) rfl (row_in h1 e)⟩
  rw [← hd.1]
  exact parts_C (Kd.R_reads' (Kd.R_move h1b fun k hk => hW k (all_mem (i := 0) rfl hk.1) hk.2)).2.2 (base := base) (S := fun k => (Chunk.all (spL base X)).S k ∧ k < w.heap.size) ⟨hd.1, fun j x p hx hp => ((hd.2 j x p hx hp).bound).move fun k hk => hW k hk.1 hk.2⟩
theorem Own.perm {w0 w : World} {L L' : List Chunk} (h : Own w0 w L) (hp : L.Perm L') : Own w0 w L' :=
  ⟨h.below, fun c hc => h.holds c (hp.symm.subset hc), fun c hc => h.inside c (hp.symm.subset hc), (hp.pairwise_iff (fun {a b} => ap_symm a b)).1 h.apart⟩
section
variable {w0 w w' : World} {L : List Chunk} {base g c i : Nat} {A : Option Addr} {S : Nat → Prop} {su bo : ByteArray} {ps : List PP}
theorem Own.sp_open (h : Own w0 w (Chunk.sp base S A c ps :: L)) : ∃ X : SmX, (X.A = A ∧ X.c = c ∧ X.ps = ps) ∧ X.ok ∧ X.W.length = ps.length ∧ Own w0 w (spL base X ++ L) := by
  obtain ⟨X, h1, h0, h2, h3⟩ := h.get 0 rfl
  refine ⟨X, h1, h0, by rw [← h1.2.2]; exact (spL_F h3).1, Own.unbundle (h.calls (cs := []) (c' := Chunk.all (spL base X)) 0 rfl (Out.one (Out.refl w _) h3 fun k hk => ?_))⟩
  have hS : S k := by rw [h2]; exact hk
  exact ⟨.inl hS, (h.lt 0 rfl hS).2⟩
theorem Own.sp_close {X : SmX} (h : Own w0 w (spL base X ++ L)) (h0 : X.ok) : Own w0 w (Chunk.sp base (Chunk.all (spL base X)).S X.A X.c X.ps :: L) := by
  have hb := Own.bundle h
  exact hb.calls (cs := []) (c' := Chunk.sp base (Chunk.all (spL base X)).S X.A X.c X.ps) 0 rfl (Out.one (Out.refl w _) ⟨X, ⟨rfl, rfl, rfl⟩, h0, rfl, hb.get 0 rfl⟩ fun k hk => ⟨.inl hk, (hb.lt 0 rfl hk).2⟩)
theorem Own.sp_start (h : Own w0 w L) : ∃ S, Own w0 w (Chunk.sp w0.heap.size S none 0 [] :: L) := by
  have h1 := ((h.row_nil KR 49 w0.heap.size).fresh (cs := [Chunk.dn w0.heap.size (fun _ => False) [] []]) (Out.one (Out.refl w _) (c := Chunk.dn w0.heap.size (fun _ => False) [] []) ⟨rfl, fun j x p hx => by simp at hx⟩ (fun _ hk => hk.elim))).row_nil kW 46 w0.heap.size
  have h2 : Own w0 w (spL w0.heap.size ⟨none, 0, [], [], none, [], none, 0, fun _ => False, fun _ => False, fun _ => False⟩ ++ L) := h1
  exact ⟨_, h2.sp_close fun _ => ⟨rfl, rfl, rfl⟩⟩
theorem sp_C (h : (Chunk.sp base S A c ps).P w) : Kd.C KP w A ps.length ps ∧ ps.length ≤ c := by
  obtain ⟨X, ⟨rfl, rfl, rfl⟩, h0, h2, h3⟩ := h
  exact ⟨Kd.F_now (spL_F h3).2.2.1, (spL_F h3).2.1⟩
theorem Own.sp_view (h : Own w0 w L) (hi : L[i]? = some (Chunk.sp base S A c ps)) : Own w0 w (L.set i (Chunk.view KP S A ps.length c ps)) :=
  h.mapc i hi (fun _ hk => hk) fun w_ hP => by
    obtain ⟨X, ⟨rfl, rfl, rfl⟩, h0, h2, h3⟩ := hP
    have hF := spL_F h3
    refine ⟨?_, hF.2.1, ?_⟩
    · rw [h2]; exact hF.2.2.1
    · rw [h2]; exact hF.2.2.2
end
end
def hpB (s p : ByteArray) : Bool := Lib.hasPrefix s.data.toList p.data.toList
def tpB (s p : ByteArray) : ByteArray := ⟨(Lib.trimPrefix s.data.toList p.data.toList).toArray⟩
def hsB (s p : ByteArray) : Bool := Lib.hasSuffix s.data.toList p.data.toList
def tsB (s p : ByteArray) : ByteArray := ⟨(Lib.trimSuffix s.data.toList p.data.toList).toArray⟩
def cuA (s p : ByteArray) : ByteArray := ⟨(Lib.cut s.data.toList p.data.toList).1.toArray⟩
def cuB (s p : ByteArray) : ByteArray := ⟨(Lib.cut s.data.toList p.data.toList).2.1.toArray⟩
def cuO (s p : ByteArray) : Bool := (Lib.cut s.data.toList p.data.toList).2.2
def nlB : ByteArray := ⟨#[10]⟩
def pcN (s : ByteArray) : Nat := min (Lib.countB s nlB + 1) (s.size + 1)
def pcs (s : ByteArray) : List ByteArray := Lib.splitB nlB 1 (pcN s - 1) s
theorem hp_calls (s p : ByteArray) (w : World) : Calls Tryd.prog 33 #[.string s, .string p] w fun e w' => e = .returned (.bool (hpB s p)) ∧ Below w.heap.size w w' :=
  (Tryd.strings_HasPrefix s p w).mono fun e w' h => ⟨h.1, h.2 ▸ Below.refl _ _⟩
theorem cp_calls (s p : ByteArray) (w : World) : Calls Tryd.prog 49 #[.string s, .string p] w fun e w' => e = .returned (.tuple #[.string (tpB s p), .bool (hpB s p)]) ∧ Below w.heap.size w w' :=
  (Tryd.strings_CutPrefix s p w).mono fun e w' h => ⟨h.1, h.2 ▸ Below.refl _ _⟩
theorem cs_calls (s p : ByteArray) (hs : s.size ≤ 9223372036854775807) (w : World) : Calls Tryd.prog 31 #[.string s, .string p] w fun e w' => e = .returned (.tuple #[.string (tsB s p), .bool (hsB s p)]) ∧ Below w.heap.size w w' :=
  (Tryd.strings_CutSuffix s p w hs).mono fun e w' h => ⟨h.1, h.2 ▸ Below.refl _ _⟩
theorem cut_calls (s p : ByteArray) (hs : s.size < 4294967281) (w : World) (hL : LaidW w) : Calls Tryd.prog 52 #[.string s, .string p] w fun e w' => e = .returned (.tuple #[.string (cuA s p), .string (cuB s p), .bool (cuO s p)]) ∧ Below w.heap.size w w' := by
  obtain ⟨m, hm⟩ := hL.1
  exact (Tryd.strings_Cut s p m w hs hm).mono fun e w' h => ⟨h.1, by obtain ⟨_, n, rfl⟩ := h; exact pw_below_drewN (Below.refl _ _) n⟩
theorem size_splitB (sep : ByteArray) (sv : Nat) : ∀ (k : Nat) (s x : ByteArray), x ∈ Lib.splitB sep sv k s → x.size ≤ s.size := by
  intro k
  induction k with
  | zero => intro s x h; rw [Lib.splitB_zero] at h; rw [List.mem_singleton.1 h]; exact Nat.le_refl _
  | succ k ih =>
    intro s x h
    unfold Lib.splitB at h
    split at h
    · rw [List.mem_singleton.1 h]; exact Nat.le_refl _
    · rcases List.mem_cons.1 h with rfl | h
      · rw [ByteArray.size_extract]; omega
      · have := ih _ _ h
        rw [ByteArray.size_extract] at this
        omega
theorem pcs_size (s x : ByteArray) (h : x ∈ pcs s) : x.size ≤ s.size := size_splitB _ _ _ _ _ h
theorem pcs_at (s : ByteArray) (i : Int) : ((pcs s).getD i.toNat (⟨#[]⟩ : ByteArray)).size ≤ s.size := by
  by_cases h : i.toNat < (pcs s).length
  · rw [List.getD_eq_getElem?_getD, List.getElem?_eq_getElem h]
    exact pcs_size s _ (List.getElem_mem h)
  · rw [List.getD_eq_getElem?_getD, List.getElem?_eq_none (by omega)]
    exact Nat.zero_le _
theorem pcs_len (s : ByteArray) : 1 ≤ (pcs s).length ∧ (pcs s).length ≤ pcN s := by
  have h := Lib.splitB_length_le nlB 1 (pcN s - 1) s
  have hn : 1 ≤ pcN s := by unfold pcN; omega
  refine ⟨?_, by unfold pcs; omega⟩
  unfold pcs
  cases pcN s - 1 with
  | zero => rw [Lib.splitB_zero]; exact Nat.le_refl _
  | succ k => unfold Lib.splitB; split <;> simp
theorem pcs_le (s : ByteArray) : (pcs s).length ≤ s.size + 1 := by
  have := (pcs_len s).2
  unfold pcN at this
  omega
theorem gs_calls (s : ByteArray) (hs : s.size < 4294967281) (w : World) (hL : LaidW w) : Calls Tryd.prog 47 #[.string s, .string nlB, .int .i64 1, .int .i64 (-1)] w fun e w' => ∃ A c S, e = .returned (.slice A (pcs s).length c) ∧ Out w w' (fun _ => False) [Chunk.view Kd.string S A (pcs s).length c (pcs s)] := by
  obtain ⟨m, hm⟩ := hL.1
  have hn : (pcN s : Int) = min (if (-1 : Int) < 0 then (Lib.countB s nlB : Int) + 1 else -1) ((s.size : Int) + 1) := by
    rw [if_pos (by decide)]; unfold pcN; omega
  refine (Tryd.strings_genSplit s nlB 1 (-1) (pcN s) m w hs hm (by decide) (by decide) (by decide) (by decide) hn).mono fun e w' h => ?_
  obtain ⟨h1, rfl⟩ := h
  refine ⟨_, pcN s, fun k => k = w.heap.size, h1, ?_⟩
  have ho := (((Own.start w).new (.cells (Lib.cellsOf (pcs s) (pcN s)) 9)).mapc (c' := Chunk.view Kd.string (fun k => k = w.heap.size) (some ⟨w.heap.size, 0, none⟩) (pcs s).length (pcN s) (pcs s)) 0 rfl (fun _ hk => hk) fun w_ hP => ?_)
  · exact ho.out
  · have hle := pcs_le s
    refine ⟨fun W' hW => ⟨rfl, by omega, fun _ => ⟨_, rfl, fun j p hj => ⟨[.string p], rfl, rfl, fun i u hi => ?_⟩⟩⟩, (pcs_len s).2, fun ad e => by injection e with e; rw [← e]⟩
    have hi0 : i = 0 := by
      cases i with
      | zero => rfl
      | succ i => simp at hi
    subst hi0
    obtain rfl : Value.string p = u := by simpa using hi
    rw [add_plain]
    have hP' : w_.heap[w.heap.size]? = some (.cells (Lib.cellsOf (pcs s) (pcN s)) 9) := hP
    refine blk_at (cs := Lib.cellsOf (pcs s) (pcN s)) (T := 9) ((hW _ rfl (blk_lt hP')).trans hP') ?_
    have hlt := (List.getElem?_eq_some_iff.1 hj).1
    have hz : j * Kd.string.sz + 0 = j := by show j * 1 + 0 = j; omega
    rw [hz]
    unfold Lib.cellsOf
    rw [List.getElem?_toArray, List.getElem?_append_left (by rw [List.length_map]; exact hlt), List.getElem?_map, hj]
    rfl
def vpF : List ByteArray → Int → ByteArray → Int
  | [], _, _ => -1
  | x :: xs, i, s => if s.toList = x.toList then i else vpF xs (i + 1) s
theorem vp_l0 (s : ByteArray) : ∀ (suf pre : List ByteArray) (k : Nat), pre.length + suf.length ≤ 100 → slices_Index_string_string.l0 (k + suf.length + 1) (pre ++ suf) s ((pre ++ suf).length : Int) (pre.length : Int) = some (vpF suf pre.length s) := by
  intro suf
  induction suf with
  | nil =>
    intro pre k _
    unfold slices_Index_string_string.l0
    rw [if_neg (by simp)]
    rfl
  | cons x xs ih =>
    intro pre k hk
    rw [List.length_cons] at hk
    have e := ih (pre ++ [x]) k (by rw [List.length_append, List.length_singleton]; omega)
    rw [List.append_assoc, List.singleton_append] at e
    show slices_Index_string_string.l0 (k + (xs.length + 1) + 1) _ _ _ _ = _
    unfold slices_Index_string_string.l0
    rw [if_pos (by simp; omega), if_pos (by omega), if_pos (by simp; omega)]
    have hr : rdOf ByteArray.empty (pre ++ x :: xs) (pre.length : Int) = x := by
      unfold rdOf
      simp
    rw [hr]
    unfold vpF
    split
    · rfl
    · have hw : wrap64 ((pre.length : Int) + 1) = ((pre ++ [x]).length : Int) := by
        rw [List.length_append, List.length_singleton, Pure.wrap_id (by omega) (by omega)]
        omega
      rw [hw, ← Nat.add_assoc k xs.length 1, e]
      congr 2
      rw [List.length_append, List.length_singleton]
      omega
def vpB (s : ByteArray) : Int := mx (vpF wordsL 0 s) 0
theorem vp_f (s : ByteArray) : trace_Parse.f 20 s = some (vpB s) := by
  unfold trace_Parse.f slices_Index_string_string.f
  have h := vp_l0 s wordsL [] 11 (by decide)
  rw [show slices_Index_string_string.l0 20 wordsL s (wordsL.length : Int) 0 = some (vpF wordsL 0 s) from h]
  rfl
theorem vp_calls (s : ByteArray) (w : World) : Calls Tryd.prog 53 #[.string s] w fun e w' => e = .returned (.int .i64 (vpB s)) ∧ Below w.heap.size w w' := trace_Parse.calls 20 s _ w (vp_f s)
open Classical in
noncomputable def readN (s : ByteArray) : ByteArray × Bool := if h : ∃ v, Ev (fun k => name_Read.f k s) v then h.choose else (⟨#[]⟩, false)
theorem read_ev (s : ByteArray) (hs : s.size ≤ 140737488351232) : Ev (fun k => name_Read.f k s) (readN s) := by
  have h : ∃ v, Ev (fun k => name_Read.f k s) v := by
    obtain ⟨v, h, _⟩ := Pure.same_read s hs s.size 0 [] (by omega) (by omega) (by simp)
    exact ⟨v, h⟩
  unfold readN
  rw [dif_pos h]
  exact h.choose_spec
theorem rd_calls (s : ByteArray) (hs : s.size ≤ 140737488351232) (w : World) : Calls Tryd.prog 50 #[.string s] w fun e w' => e = .returned (.tuple #[.string (readN s).1, .bool (readN s).2]) ∧ Below w.heap.size w w' := by
  obtain ⟨k, hk⟩ := read_ev s hs
  exact name_Read.calls k s _ _ w (hk k (Nat.le_refl _))
theorem tp_size (s p : ByteArray) : (tpB s p).size ≤ s.size := by
  show (Lib.trimPrefix s.data.toList p.data.toList).toArray.size ≤ s.data.size
  rw [List.size_toArray]
  unfold Lib.trimPrefix
  split
  · rw [List.length_drop, Array.length_toList]; omega
  · rw [Array.length_toList]; exact Nat.le_refl _
theorem ts_size (s p : ByteArray) : (tsB s p).size ≤ s.size := by
  show (Lib.trimSuffix s.data.toList p.data.toList).toArray.size ≤ s.data.size
  rw [List.size_toArray]
  unfold Lib.trimSuffix
  split
  · rw [List.length_take, Array.length_toList]; omega
  · rw [Array.length_toList]; exact Nat.le_refl _
theorem cuB_size (s p : ByteArray) : (cuB s p).size ≤ s.size := by
  show (Lib.cut s.data.toList p.data.toList).2.1.toArray.size ≤ s.data.size
  rw [List.size_toArray]
  unfold Lib.cut
  split
  · rw [List.length_drop, Array.length_toList]; omega
  · exact Nat.zero_le _
noncomputable def nmB (l word : ByteArray) : ByteArray := (readN (tpB l word)).1
noncomputable def nmO (l word : ByteArray) : Bool := hpB l word && (readN (tpB l word)).2
abbrev grpB : ByteArray := ⟨#[103, 114, 111, 117, 112, 32]⟩
abbrev sepB : ByteArray := ⟨#[58, 32]⟩
def addL : List PP → RS → List PP
  | [], _ => []
  | [p], r => [⟨p.f0, p.f1 ++ [r]⟩]
  | p :: q :: ps, r => p :: addL (q :: ps) r
theorem addL_snoc (qs : List PP) (g : ByteArray) (xs : List RS) (r : RS) : addL (qs ++ [⟨g, xs⟩]) r = qs ++ [⟨g, xs ++ [r]⟩] := by
  induction qs with
  | nil => rfl
  | cons q qs ih =>
    cases qs with
    | nil => rfl
    | cons q2 qs => show q :: addL (q2 :: qs ++ [⟨g, xs⟩]) r = _; rw [ih]; rfl
noncomputable def resO (ps : List PP) (l : ByteArray) : Bool := cuO l sepB && !decide (vpB (cuA l sepB) = 0) && (readN (cuB l sepB)).2 && !ps.isEmpty
noncomputable def lineO (ps : List PP) (l : ByteArray) : Bool := if hpB l grpB = true then nmO l grpB else resO ps l
noncomputable def lineS (ps : List PP) (l : ByteArray) : List PP := if hpB l grpB = true then ps ++ [⟨nmB l grpB, []⟩] else if resO ps l = true then addL ps ⟨(readN (cuB l sepB)).1, vpB (cuA l sepB)⟩ else ps
theorem snoc_ne {α : Type} (xs : List α) (x : α) : (xs ++ [x]).isEmpty = false := by cases xs <;> rfl
theorem getD_last (Wd : List W2) (x : W2) (i : Int) (hi : i = ((Wd ++ [x]).length : Int) - 1) : (Wd ++ [x]).getD i.toNat zW = x := by
  rw [List.length_append, List.length_singleton] at hi
  rw [List.getD_eq_getElem?_getD, List.getElem?_append_right (by omega), show i.toNat - Wd.length = 0 by omega]
  rfl
theorem set_last (Wd : List W2) (x y : W2) (i : Int) (hi : i = ((Wd ++ [x]).length : Int) - 1) : (Wd ++ [x]).set i.toNat y = Wd ++ [y] := by
  rw [List.length_append, List.length_singleton] at hi
  rw [List.set_append_right _ _ (by omega), show i.toNat - Wd.length = 0 by omega]
  rfl
section
abbrev J (n : Int) : Value := .int .i64 n
abbrev Bk (g : Nat) (cs : List Value) (t : Nat) : Chunk := Chunk.blk g (.cells cs.toArray t (0, 0))
section
variable {D : List Deferred} {P : Program} {ops : Array Oper} {Q : Exit → Act → World → Prop} {Q' : Act → World → Prop} {rest : List Oper} {o : Oper} {N d : Nat} {a : Act} {F : List (Nat × Value)} {w w0 w1 wz : World} {L M : List Chunk} {v : Value} {B : Nat → Bool}
theorem V (HF : FrD D N a F) (hrun : Runs P o a w v w1) (k : ∀ a', FrD D N a' ((d, v) :: F) → wpList P ops Q rest a' w1) (hg : o.guard = none := by rfl) (hd : o.dst = some d := by rfl) (hN : d < N := by decide) : wpList P ops Q (o :: rest) a w := gw_ev HF (want_none hg) hd hN hrun k
theorem V2 (HF : FrD D N a F) (hw : Region.wanted o (yielded ops a.tmps) = true) (hrun : Runs P o a w v w1) (k : ∀ a', FrD D N a' ((d, v) :: F) → wpList P ops Q rest a' w1) (hd : o.dst = some d := by rfl) (hN : d < N := by decide) : wpList P ops Q (o :: rest) a w := gw_ev HF hw hd hN hrun k
theorem Vo (HF : FrD D N a F) (hw : Region.wanted o (yielded ops a.tmps) = false) (k : ∀ a', FrD D N a' ((d, undef) :: F) → wpList P ops Q rest a' w) (hd : o.dst = some d := by rfl) (hN : d < N := by decide) : wpList P ops Q (o :: rest) a w := gw_off HF hw hd hN k
theorem wn {j dj : Nat} {oj : Oper} {b b' : Bool} (HF : FrD D N a F) (hg : o.guard = some (j, b)) (hj : ops[j]? = some oj) (hdj : oj.dst = some dj) (hl : look F dj = some (.bool b')) (hne : b' ≠ b := by decide) : Region.wanted o (yielded ops a.tmps) = false := want_no HF hg hj hdj hl hne
theorem gR {id : Nat} {l : List Oper} {y : Code} (h : ∀ K : Act → World → Prop, (∀ a w, y.wp P Q a w → K a w) → wpList P l.toArray (Exit.then K Q) l a w) : (Code.seq (.region id l.toArray false) y).wp P Q a w := gw_seq fun K hK => wp_region_lit (h K hK)
theorem gE {y : Code} {K : Act → World → Prop} {Q2 : Exit → Act → World → Prop} (hK : ∀ a w, y.wp P Q2 a w → K a w) (h : y.wp P Q2 a w) : wpList P ops (Exit.then K Q) [] a w := wpList_nil (gw_nx (hK _ _ h))
end
section
variable {D : List Deferred} {P : Program} {ops : Array Oper} {Q : Exit → Act → World → Prop} {C : World → Prop} {Q' : Act → Prop} {rest : List Oper} {o : Oper} {N d : Nat} {a : Act} {F : List (Nat × Value)} {w : World} {v : Value}
theorem Vq (HF : FrD D N a F) (hrun : ∀ w, C w → Runs P o a w v w) (k : ∀ a', FrD D N a' ((d, v) :: F) → wpQuiet P ops C Q' rest a') (hg : o.guard = none := by rfl) (hd : o.dst = some d := by rfl) (hN : d < N := by decide) : wpQuiet P ops C Q' (o :: rest) a := gq_ev HF (want_none hg) hd hN hrun k
theorem Vn (HF : FrD D N a F) (hrun : ∀ {w}, Runs P o a w v w) (k : ∀ a', FrD D N a' ((d, v) :: F) → wpQuiet P ops C Q' rest a') (hg : o.guard = none := by rfl) (hd : o.dst = some d := by rfl) (hN : d < N := by decide) : wpQuiet P ops C Q' (o :: rest) a := gq_ev HF (want_none hg) hd hN (fun _ _ => hrun) k
theorem Vm {t : Nat} (HF : FrD D N a F) (k : ∀ a', FrD D N a' ((d, v) :: F) → wpList P ops Q rest a' w) (ho : o.op = .move (.tmp t) := by exact rfl) (hl : look F t = some v := by exact rfl) (hg : o.guard = none := by rfl) (hd : o.dst = some d := by rfl) (hN : d < N := by decide) : wpList P ops Q (o :: rest) a w := gw_ev HF (want_none hg) hd hN (op_move ho (HF.ev hl)) k
theorem Va {t : Nat} (HF : FrD D N a F) (k : ∀ a', FrD D N a' ((d, v) :: F) → wpList P ops Q rest a' w) (ho : o.op = .assign (.tmp t) := by exact rfl) (hl : look F t = some v := by exact rfl) (hg : o.guard = none := by rfl) (hd : o.dst = some d := by rfl) (hN : d < N := by decide) : wpList P ops Q (o :: rest) a w := gw_ev HF (want_none hg) hd hN (op_assign ho (HF.ev hl)) k
theorem Vc (HF : FrD D N a F) (k : ∀ a', FrD D N a' ((d, v) :: F) → wpList P ops Q rest a' w) (ho : o.op = .assign (.const v) := by exact rfl) (hg : o.guard = none := by rfl) (hd : o.dst = some d := by rfl) (hN : d < N := by decide) : wpList P ops Q (o :: rest) a w := gw_ev HF (want_none hg) hd hN (op_assign ho (ev_c _ _)) k
theorem Vx {t i : Nat} {vs : Array Value} (HF : FrD D N a F) (k : ∀ a', FrD D N a' ((d, v) :: F) → wpList P ops Q rest a' w) (ho : o.op = .extract (.tmp t) i := by exact rfl) (hl : look F t = some (.tuple vs) := by exact rfl) (hv : vs[i]? = some v := by exact rfl) (hg : o.guard = none := by rfl) (hd : o.dst = some d := by rfl) (hN : d < N := by decide) : wpList P ops Q (o :: rest) a w := gw_ev HF (want_none hg) hd hN (op_extract ho (HF.ev hl) hv) k
theorem Vz {t : Nat} {ad : Addr} (HF : FrD D N a F) (k : ∀ a', FrD D N a' ((d, .pointer (some ad)) :: F) → wpList P ops Q rest a' w) (ho : o.op = .nilCheck (.tmp t) := by exact rfl) (hl : look F t = some (.pointer (some ad)) := by exact rfl) (hg : o.guard = none := by rfl) (hd : o.dst = some d := by rfl) (hN : d < N := by decide) : wpList P ops Q (o :: rest) a w := gw_ev HF (want_none hg) hd hN (op_nil ho (HF.ev hl)) k
theorem Vf {t f : Nat} {ty : TypeId} {ad ad' : Addr} (HF : FrD D N a F) (hf : ∀ w, (Instr.fieldAt ty (.pointer (some ad)) f).run P w = .ok (.pointer (some ad')) w) (k : ∀ a', FrD D N a' ((d, .pointer (some ad')) :: F) → wpList P ops Q rest a' w) (ho : o.op = .fieldAddr ty (.tmp t) f := by exact rfl) (hl : look F t = some (.pointer (some ad)) := by exact rfl) (hg : o.guard = none := by rfl) (hd : o.dst = some d := by rfl) (hN : d < N := by decide) : wpList P ops Q (o :: rest) a w := gw_ev HF (want_none hg) hd hN (op_field hf ho (HF.ev hl)) k
theorem Vl {t g j : Nat} {ty T : TypeId} {cs : Array Value} (HF : FrD D N a F) (hA : ∀ w, (isAgg ty).run P w = .ok false w) (hb : w.heap[g]? = some (.cells cs T (0, 0))) (k : ∀ a', FrD D N a' ((d, v) :: F) → wpList P ops Q rest a' w) (ho : o.op = .load ty (.tmp t) := by exact rfl) (hl : look F t = some (.pointer (some ⟨g, j, none⟩)) := by exact rfl) (hv : cs[j]? = some v := by exact rfl) (hg : o.guard = none := by rfl) (hd : o.dst = some d := by rfl) (hN : d < N := by decide) : wpList P ops Q (o :: rest) a w := gw_ev HF (want_none hg) hd hN (op_load1 hA ho (HF.ev hl) (blk_at hb hv)) k
theorem Wk {f : FuncId} {fn : Func} {args : List Operand} {tys : Array TypeId} {vs : List Value} {R : Ending → World → Prop} (HF : FrD D N a F) (hf : P.funcs[f]? = some fn) (ho : o.op = .call { callee := .value (.func f), args := args.toArray, argTypes := tys }) (hv : args.map a.eval = vs) (hc : Calls P f vs.toArray w R) (k : ∀ e w', R e w' → ∃ v, e = .returned v ∧ ∀ a', FrD D N a' ((d, v) :: F) → wpList P ops Q rest a' w') (hname : (fn.name == "runtime.NumGoroutine") = false := by kernel_rfl) (hb : fn.body.isSome = true := by exact rfl) (hg : o.guard = none := by rfl) (hd : o.dst = some d := by rfl) (hN : d < N := by decide) : wpList P ops Q (o :: rest) a w := gw_call HF (want_none hg) hd hN (op_callL hf hname hb ho hv) hc k
theorem gS {y : Code} {K : Act → World → Prop} {Q2 : Exit → Act → World → Prop} (hK : ∀ a w, y.wp P Q2 a w → K a w) (h : y.wp P Q2 a w) : Code.skip.wp P (Exit.then K Q) a w := wp_skip (gw_nx (hK _ _ h))
theorem Wc {f : FuncId} {args : Array Value} {R : Ending → World → Prop} (HF : FrD D N a F) (hen : Enters P o a w f args) (hc : Calls P f args w R) (k : ∀ e w', R e w' → ∃ v, e = .returned v ∧ ∀ a', FrD D N a' ((d, v) :: F) → wpList P ops Q rest a' w') (hg : o.guard = none := by rfl) (hd : o.dst = some d := by rfl) (hN : d < N := by decide) : wpList P ops Q (o :: rest) a w := gw_call HF (want_none hg) hd hN hen hc k
end
theorem gwagg3 : ∀ w, (isAgg 3).run Tryd.prog w = .ok false w := fun _ => by kernel_rfl
theorem gwagg31 : ∀ w, (isAgg 31).run Tryd.prog w = .ok true w := fun _ => by kernel_rfl
theorem gwagg49 : ∀ w, (isAgg 49).run Tryd.prog w = .ok true w := fun _ => by kernel_rfl
theorem gwfld49_1 (g off : Nat) : ∀ w, (Instr.fieldAt 49 (.pointer (some ⟨g, off, none⟩)) 1).run Tryd.prog w = .ok (.pointer (some ⟨g, off + 1, none⟩)) w := fun _ => by kernel_rfl
theorem gwsiz3 : ∀ w, (sizeOf 3).run Tryd.prog w = .ok 1 w := fun _ => by kernel_rfl
theorem gwsiz31 : ∀ w, (sizeOf 31).run Tryd.prog w = .ok 8 w := fun _ => by kernel_rfl
theorem gwsiz49 : ∀ w, (sizeOf 49).run Tryd.prog w = .ok 2 w := fun _ => by kernel_rfl
theorem gwzer31 : ∀ w, (zeroValue 31).run Tryd.prog w = .ok (.agg #[.int .i64 0, .int .i64 0, .int .i64 0, .int .i64 0, .int .i64 0, .int .i64 0, .int .i64 0, .int .i64 0]) w := fun _ => by kernel_rfl
theorem gwzer49 : ∀ w, (zeroValue 49).run Tryd.prog w = .ok (.agg #[.string (⟨#[]⟩ : ByteArray), .int .i64 0]) w := fun _ => by kernel_rfl
theorem gwagg22 : ∀ w, (isAgg 22).run Tryd.prog w = .ok false w := fun _ => by kernel_rfl
theorem gwagg44 : ∀ w, (isAgg 44).run Tryd.prog w = .ok false w := fun _ => by kernel_rfl
theorem gwagg46 : ∀ w, (isAgg 46).run Tryd.prog w = .ok true w := fun _ => by kernel_rfl
theorem gwfld24_2 (g off : Nat) : ∀ w, (Instr.fieldAt 24 (.pointer (some ⟨g, off, none⟩)) 2).run Tryd.prog w = .ok (.pointer (some ⟨g, off + 2, none⟩)) w := fun _ => by kernel_rfl
theorem gwfld46_1 (g off : Nat) : ∀ w, (Instr.fieldAt 46 (.pointer (some ⟨g, off, none⟩)) 1).run Tryd.prog w = .ok (.pointer (some ⟨g, off + 1, none⟩)) w := fun _ => by kernel_rfl
theorem gwsiz46 : ∀ w, (sizeOf 46).run Tryd.prog w = .ok 2 w := fun _ => by kernel_rfl
theorem gwzer46 : ∀ w, (zeroValue 46).run Tryd.prog w = .ok (.agg #[.string (⟨#[]⟩ : ByteArray), .slice none 0 0]) w := fun _ => by kernel_rfl
theorem gwagg24 : ∀ w, (isAgg 24).run Tryd.prog w = .ok true w := fun _ => by kernel_rfl
theorem gwagg9 : ∀ w, (isAgg 9).run Tryd.prog w = .ok false w := fun _ => by kernel_rfl
theorem gwfld24_0 (g off : Nat) : ∀ w, (Instr.fieldAt 24 (.pointer (some ⟨g, off, none⟩)) 0).run Tryd.prog w = .ok (.pointer (some ⟨g, off + 0, none⟩)) w := fun _ => by kernel_rfl
theorem gwfld24_1 (g off : Nat) : ∀ w, (Instr.fieldAt 24 (.pointer (some ⟨g, off, none⟩)) 1).run Tryd.prog w = .ok (.pointer (some ⟨g, off + 1, none⟩)) w := fun _ => by kernel_rfl
theorem gwfld46_0 (g off : Nat) : ∀ w, (Instr.fieldAt 46 (.pointer (some ⟨g, off, none⟩)) 0).run Tryd.prog w = .ok (.pointer (some ⟨g, off + 0, none⟩)) w := fun _ => by kernel_rfl
theorem gwfld49_0 (g off : Nat) : ∀ w, (Instr.fieldAt 49 (.pointer (some ⟨g, off, none⟩)) 0).run Tryd.prog w = .ok (.pointer (some ⟨g, off + 0, none⟩)) w := fun _ => by kernel_rfl
theorem gwinfo9 : (Tryd.prog.info? 9).map (fun i => (i.zero, i.size, i.bytes)) = some (some (.string (⟨#[]⟩ : ByteArray)), 1, 16) := by kernel_rfl
theorem gwsiz24 : ∀ w, (sizeOf 24).run Tryd.prog w = .ok 3 w := fun _ => by kernel_rfl
theorem gwsiz9 : ∀ w, (sizeOf 9).run Tryd.prog w = .ok 1 w := fun _ => by kernel_rfl
theorem gwflda46_1 (ad : Addr) : ∀ w, (Instr.fieldAt 46 (.pointer (some ad)) 1).run Tryd.prog w = .ok (.pointer (some (ad.add 1))) w := fun _ => by kernel_rfl
theorem gwinfo46 : (Tryd.prog.info? 46).map (fun i => (i.zero, i.size, i.bytes)) = some (some (.agg #[.string (⟨#[]⟩ : ByteArray), .slice none 0 0]), 2, 40) := by kernel_rfl
theorem gwinfo49 : (Tryd.prog.info? 49).map (fun i => (i.zero, i.size, i.bytes)) = some (some (.agg #[.string (⟨#[]⟩ : ByteArray), .int .i64 0]), 2, 24) := by kernel_rfl
theorem gwsiz22 : ∀ w, (sizeOf 22).run Tryd.prog w = .ok 1 w := fun _ => by kernel_rfl
theorem gwsiz44 : ∀ w, (sizeOf 44).run Tryd.prog w = .ok 1 w := fun _ => by kernel_rfl
theorem gwzer24 : ∀ w, (zeroValue 24).run Tryd.prog w = .ok (.agg #[.string (⟨#[]⟩ : ByteArray), .string (⟨#[]⟩ : ByteArray), .slice none 0 0]) w := fun _ => by kernel_rfl
theorem gwagg27 : ∀ w, (isAgg 27).run Tryd.prog w = .ok false w := fun _ => by kernel_rfl
theorem gwagg29 : ∀ w, (isAgg 29).run Tryd.prog w = .ok true w := fun _ => by kernel_rfl
theorem gwagg53 : ∀ w, (isAgg 53).run Tryd.prog w = .ok true w := fun _ => by kernel_rfl
theorem gwfld29_2 (g off : Nat) : ∀ w, (Instr.fieldAt 29 (.pointer (some ⟨g, off, none⟩)) 2).run Tryd.prog w = .ok (.pointer (some ⟨g, off + 2, none⟩)) w := fun _ => by kernel_rfl
theorem gwfld53_1 (g off : Nat) : ∀ w, (Instr.fieldAt 53 (.pointer (some ⟨g, off, none⟩)) 1).run Tryd.prog w = .ok (.pointer (some ⟨g, off + 1, none⟩)) w := fun _ => by kernel_rfl
theorem gwinfo53 : (Tryd.prog.info? 53).map (fun i => (i.zero, i.size, i.bytes)) = some (some (.agg #[.string (⟨#[]⟩ : ByteArray), .slice none 0 0]), 2, 40) := by kernel_rfl
theorem gwsiz27 : ∀ w, (sizeOf 27).run Tryd.prog w = .ok 1 w := fun _ => by kernel_rfl
theorem gwsiz29 : ∀ w, (sizeOf 29).run Tryd.prog w = .ok 3 w := fun _ => by kernel_rfl
theorem gwsiz53 : ∀ w, (sizeOf 53).run Tryd.prog w = .ok 2 w := fun _ => by kernel_rfl
theorem gwzer29 : ∀ w, (zeroValue 29).run Tryd.prog w = .ok (.agg #[.string (⟨#[]⟩ : ByteArray), .string (⟨#[]⟩ : ByteArray), .slice none 0 0]) w := fun _ => by kernel_rfl
theorem gwzer53 : ∀ w, (zeroValue 53).run Tryd.prog w = .ok (.agg #[.string (⟨#[]⟩ : ByteArray), .slice none 0 0]) w := fun _ => by kernel_rfl
theorem gwfld29_0 (g off : Nat) : ∀ w, (Instr.fieldAt 29 (.pointer (some ⟨g, off, none⟩)) 0).run Tryd.prog w = .ok (.pointer (some ⟨g, off + 0, none⟩)) w := fun _ => by kernel_rfl
theorem gwfld29_1 (g off : Nat) : ∀ w, (Instr.fieldAt 29 (.pointer (some ⟨g, off, none⟩)) 1).run Tryd.prog w = .ok (.pointer (some ⟨g, off + 1, none⟩)) w := fun _ => by kernel_rfl
end
namespace GCountE_
theorem count_calls (A0 : Option Addr) (c0_ : Nat) (rs : List S49) (w : World) (hr0 : Kd.C k49 w A0 rs.length rs) (hc0 : rs.length ≤ c0_) (hl : rs.length ≤ 9223372036854775807) :
    Calls Tryd.prog 22 #[.slice A0 rs.length c0_] w fun e w' => e = .returned (.agg #[.int .i64 (cntL rs 0), .int .i64 (cntL rs 1), .int .i64 (cntL rs 2), .int .i64 (cntL rs 3), .int .i64 (cntL rs 4), .int .i64 (cntL rs 5), .int .i64 (cntL rs 6), .int .i64 (cntL rs 7)]) ∧ Below w.heap.size w w' := by
 refine gw_start (N := 28) (vs := [.slice A0 rs.length c0_]) Tryd.func22 rfl rfl (by simp) fun a HF HO => ?_
 replace HO : Own w w [] := HO
 refine gR fun K1 hK1 => ?_
 refine gw_new HF HO (want_none rfl) rfl (by decide) (op_alloc gwzer31 rfl) ?_
 intro g2 _ w4 H5 O6; clear HF HO
 have O7 : Own w w4 [Bk g2 [J 0, J 0, J 0, J 0, J 0, J 0, J 0, J 0] 31] := O6
 clear O6
 refine gE hK1 ?_
 refine gR fun K8 hK8 => ?_
 refine gw_new H5 O7 (want_none rfl) rfl (by decide) (op_alloc gwzer31 rfl) ?_
 intro g9 _ w11 H12 O13; clear H5 O7
 have O14 : Own w w11 [Bk g9 [J 0, J 0, J 0, J 0, J 0, J 0, J 0, J 0] 31, Bk g2 [J 0, J 0, J 0, J 0, J 0, J 0, J 0, J 0] 31] := O13
 clear O13
 refine gE hK8 ?_
 refine gw_seq fun K15 hK15 => ?_
 refine gR fun K16 hK16 => ?_
 refine Vm H12 fun _ H18 => ?_
 refine V H18 (op_len Tryd.underlying44 rfl (H18.ev rfl)) fun _ H20 => ?_
 refine V H20 (op_move rfl (ev_c _ _)) fun _ H22 => ?_
 refine gE hK16 ?_
 clear H12 H18 H20
 refine wp_block ?_
 refine gw_loop (fun m_ a_ w_ => ∃ (i : Int) (q0 : Int) (q1 : Int) (q2 : Int) (q3 : Int) (q4 : Int) (q5 : Int) (q6 : Int) (q7 : Int), Fr 28 a_ [(9, J i), (2, .pointer (some ⟨g2, 0, none⟩)), (3, .pointer (some ⟨g9, 0, none⟩)), (7, .slice A0 rs.length c0_), (8, J (rs.length : Int))] ∧ Own w w_ [Bk g9 [J q0, J q1, J q2, J q3, J q4, J q5, J q6, J q7] 31, Bk g2 [J 0, J 0, J 0, J 0, J 0, J 0, J 0, J 0] 31] ∧ (0 ≤ i ∧ i ≤ rs.length) ∧ (q0 = cntL (rs.take i.toNat) 0) ∧ (q1 = cntL (rs.take i.toNat) 1) ∧ (q2 = cntL (rs.take i.toNat) 2) ∧ (q3 = cntL (rs.take i.toNat) 3) ∧ (q4 = cntL (rs.take i.toNat) 4) ∧ (q5 = cntL (rs.take i.toNat) 5) ∧ (q6 = cntL (rs.take i.toNat) 6) ∧ (q7 = cntL (rs.take i.toNat) 7) ∧ m_ = (rs.length - i.toNat)) ((rs.length - (0 : Int).toNat)) ?_ ?_
 ·
  refine ⟨0, 0, 0, 0, 0, 0, 0, 0, 0, (H22.pick (t := 9) rfl (H22.pick (t := 2) rfl (H22.pick (t := 3) rfl (H22.pick (t := 7) rfl (H22.pick (t := 8) rfl H22.nil))))), O14.sel [0, 1] (by decide), ?_, ?_, ?_, ?_, ?_, ?_, ?_, ?_, ?_, rfl⟩
  ·
   omega
  ·
   simp [cntL]
  ·
   simp [cntL]
  ·
   simp [cntL]
  ·
   simp [cntL]
  ·
   simp [cntL]
  ·
   simp [cntL]
  ·
   simp [cntL]
  simp [cntL]
 rintro m24 _ w26 ⟨i, q0, q1, q2, q3, q4, q5, q6, q7, H27, O28, hi, hq0, hq1, hq2, hq3, hq4, hq5, hq6, hq7, hm29⟩
 refine gR fun K30 hK30 => ?_
 refine V H27 (op_lss rfl (H27.ev rfl) (H27.ev rfl)) fun _ H32 => ?_
 refine gE hK30 ?_
 refine gw_seq fun K33 hK33 => ?_
 clear H27
 refine gw_cond H32 rfl (fun hb34 => ?_) (fun hb34 => ?_)
 ·
  have H35 := H32.subst_ (d := 10) (b := true) rfl hb34
  clear H32
  (try simp only [decide_eq_true_eq] at hb34)
  refine gS hK33 ?_
  refine gw_seq fun K36 hK36 => ?_
  refine wp_block ?_
  refine gR fun K37 hK37 => ?_
  obtain ⟨ad38, cs41, hA39, hl42, hK43, hc40⟩ := Kd.C_get hr0 z49 i (by omega) (by omega)
  obtain rfl := k49_open hK43
  clear hl42
  refine V H35 (op_index Tryd.underlying44 gwsiz49 rfl (H35.ev rfl) (H35.ev rfl) hA39 (⟨by omega, by omega⟩)) fun _ H45 => ?_
  refine V H45 (op_loadc gwagg49 gwsiz49 rfl (H45.ev rfl) rfl (cells0 O28 hc40)) fun _ H47 => ?_
  clear H35 H45
  refine gw_new H47 O28 (want_none rfl) rfl (by decide) (op_alloc gwzer49 rfl) ?_
  intro g48 _ w50 H51 O52; clear H47 O28
  have O53 : Own w w50 [Bk g48 [.string (⟨#[]⟩ : ByteArray), J 0] 49, Bk g9 [J q0, J q1, J q2, J q3, J q4, J q5, J q6, J q7] 31, Bk g2 [J 0, J 0, J 0, J 0, J 0, J 0, J 0, J 0] 31] := O52
  clear O52
  refine gw_setn 0 H51 O53 rfl (want_none rfl) rfl (op_storen gwsiz49 rfl (H51.ev rfl) (H51.ev rfl) (O53.get 0 rfl) rfl (by simp) (by simp [Value.oneCell'])) ?_
  intro _ w56 H55 O57; clear H51 O53
  refine gE hK37 ?_
  refine gR fun K58 hK58 => ?_
  refine Vf H55 (gwfld49_1 _ _) fun _ H60 => ?_
  refine Vl H60 gwagg3 (O57.get 0 rfl) fun _ H62 => ?_
  refine Va H62 fun _ H64 => ?_
  refine gE hK58 ?_
  refine gw_seq fun K65 hK65 => ?_
  refine gR fun K66 hK66 => ?_
  refine Vm H64 fun _ H68 => ?_
  refine V H68 (op_lss rfl (H68.ev rfl) (ev_c _ _)) fun _ H70 => ?_
  refine Vm H70 fun _ H72 => ?_
  clear H55 H60 H62 H64 H68 H70
  refine gw_evG H72 rfl rfl rfl rfl (on_f _) rfl (by decide) (fun h_ => (op_move rfl (H72.ev rfl))) ?_
  intro _ H74; clear H72
  refine gw_evG H74 rfl rfl rfl rfl (on_f _) rfl (by decide) (fun h_ => (op_gtr rfl (ev_gv (H74.ev rfl) h_) (ev_c _ _))) ?_
  intro _ H76; clear H74
  refine V H76 (op_pick_or rfl (H76.ev rfl) (ev_c _ _) (fun hp_ => (ev_gv (H76.ev rfl) (not_t hp_)))) fun _ H78 => ?_
  refine gE hK66 ?_
  clear H76
  refine gw_cond H78 rfl (fun hb79 => ?_) (fun hb79 => ?_)
  ·
   have H80 := H78.subst_ (d := 20) (b := true) rfl hb79
   clear H78
   (try simp only [Bool.or_eq_true, Bool.or_eq_false_iff, decide_eq_true_eq, decide_eq_false_iff_not, Int.not_lt] at hb79)
   refine wp_region_lit ?_
   refine Vc H80 fun _ H82 => ?_
   refine gE hK65 ?_
   clear H80
   refine wp_region_lit ?_
   refine Vm H82 fun _ H84 => ?_
   refine V H84 (op_indexP (q := 0) Tryd.underlying31 gwsiz3 rfl (H84.ev rfl) (H84.ev rfl) (by decide) rfl) fun _ H86 => ?_
   refine Vl H86 gwagg3 (O57.get 1 rfl) fun _ H88 => ?_
   refine V H88 (op_add rfl (H88.ev rfl) (ev_c _ _) (by have hb0_ := cnt_b (rs.take i.toNat) 0; have hb1_ := cnt_b (rs.take i.toNat) 1; have hb2_ := cnt_b (rs.take i.toNat) 2; have hb3_ := cnt_b (rs.take i.toNat) 3; have hb4_ := cnt_b (rs.take i.toNat) 4; have hb5_ := cnt_b (rs.take i.toNat) 5; have hb6_ := cnt_b (rs.take i.toNat) 6; have hb7_ := cnt_b (rs.take i.toNat) 7; simp only [List.length_take] at *; omega)) fun _ H90 => ?_
   refine V H90 (op_indexP (q := 0) Tryd.underlying31 gwsiz3 rfl (H90.ev rfl) (H90.ev rfl) (by decide) rfl) fun _ H92 => ?_
   clear H82 H84 H86 H88 H90
   refine gw_set 1 H92 O57 rfl (want_none rfl) rfl (op_store1 gwsiz3 rfl (H92.ev rfl) (H92.ev rfl) rfl (blk_at (O57.get 1 rfl) rfl) (blkf (O57.get 1 rfl))) ?_
   intro _ w95 H94 O96; clear H92 O57
   refine wpList_nil ?_
   refine gw_blk ?_
   refine gw_nx (hK36 _ _ ?_)
   refine wp_region_lit ?_
   refine V H94 (op_add rfl (H94.ev rfl) (ev_c _ _) (by omega)) fun _ H98 => ?_
   refine Vm H98 fun _ H100 => ?_
   clear H94 H98
   refine wpList_nil ?_
   refine gw_nx ⟨_, ?_, i + 1, q0 + 1, q1, q2, q3, q4, q5, q6, q7, (H100.pick (t := 9) rfl (H100.pick (t := 2) rfl (H100.pick (t := 3) rfl (H100.pick (t := 7) rfl (H100.pick (t := 8) rfl H100.nil))))), O96.sel [1, 2] (by decide), ?_, ?_, ?_, ?_, ?_, ?_, ?_, ?_, ?_, rfl⟩
   ·
    rw [hm29]; omega
   ·
    omega
   ·
    rw [cnt_succ rs i 0 (by omega) (by omega)]; unfold clsL; (repeat' split) <;> omega
   ·
    rw [cnt_succ rs i 1 (by omega) (by omega)]; unfold clsL; (repeat' split) <;> omega
   ·
    rw [cnt_succ rs i 2 (by omega) (by omega)]; unfold clsL; (repeat' split) <;> omega
   ·
    rw [cnt_succ rs i 3 (by omega) (by omega)]; unfold clsL; (repeat' split) <;> omega
   ·
    rw [cnt_succ rs i 4 (by omega) (by omega)]; unfold clsL; (repeat' split) <;> omega
   ·
    rw [cnt_succ rs i 5 (by omega) (by omega)]; unfold clsL; (repeat' split) <;> omega
   ·
    rw [cnt_succ rs i 6 (by omega) (by omega)]; unfold clsL; (repeat' split) <;> omega
   rw [cnt_succ rs i 7 (by omega) (by omega)]; unfold clsL; (repeat' split) <;> omega
  have H101 := H78.subst_ (d := 20) (b := false) rfl hb79
  clear H78
  (try simp only [Bool.or_eq_true, Bool.or_eq_false_iff, decide_eq_true_eq, decide_eq_false_iff_not, Int.not_lt] at hb79)
  refine gS hK65 ?_
  refine wp_region_lit ?_
  refine Vm H101 fun _ H103 => ?_
  clear H101
  rcases (show ((rs.getD i.toNat z49).f1) = 0 ∨ ((rs.getD i.toNat z49).f1) = 1 ∨ ((rs.getD i.toNat z49).f1) = 2 ∨ ((rs.getD i.toNat z49).f1) = 3 ∨ ((rs.getD i.toNat z49).f1) = 4 ∨ ((rs.getD i.toNat z49).f1) = 5 ∨ ((rs.getD i.toNat z49).f1) = 6 ∨ ((rs.getD i.toNat z49).f1) = 7 from by omega) with hv104 | hv104 | hv104 | hv104 | hv104 | hv104 | hv104 | hv104
  ·
   have H105 := H103.conv (v' := J 0) (congrArg (Value.int .i64) hv104)
   clear H103
   refine V H105 (op_indexP (q := 0) Tryd.underlying31 gwsiz3 rfl (H105.ev rfl) (H105.ev rfl) (by decide) rfl) fun _ H107 => ?_
   refine Vl H107 gwagg3 (O57.get 1 rfl) fun _ H109 => ?_
   refine V H109 (op_add rfl (H109.ev rfl) (ev_c _ _) (by have hb0_ := cnt_b (rs.take i.toNat) 0; have hb1_ := cnt_b (rs.take i.toNat) 1; have hb2_ := cnt_b (rs.take i.toNat) 2; have hb3_ := cnt_b (rs.take i.toNat) 3; have hb4_ := cnt_b (rs.take i.toNat) 4; have hb5_ := cnt_b (rs.take i.toNat) 5; have hb6_ := cnt_b (rs.take i.toNat) 6; have hb7_ := cnt_b (rs.take i.toNat) 7; simp only [List.length_take] at *; omega)) fun _ H111 => ?_
   refine V H111 (op_indexP (q := 0) Tryd.underlying31 gwsiz3 rfl (H111.ev rfl) (H111.ev rfl) (by decide) rfl) fun _ H113 => ?_
   clear H105 H107 H109 H111
   refine gw_set 1 H113 O57 rfl (want_none rfl) rfl (op_store1 gwsiz3 rfl (H113.ev rfl) (H113.ev rfl) rfl (blk_at (O57.get 1 rfl) rfl) (blkf (O57.get 1 rfl))) ?_
   intro _ w116 H115 O117; clear H113 O57
   refine wpList_nil ?_
   refine gw_blk ?_
   refine gw_nx (hK36 _ _ ?_)
   refine wp_region_lit ?_
   refine V H115 (op_add rfl (H115.ev rfl) (ev_c _ _) (by omega)) fun _ H119 => ?_
   refine Vm H119 fun _ H121 => ?_
   clear H115 H119
   refine wpList_nil ?_
   refine gw_nx ⟨_, ?_, i + 1, q0 + 1, q1, q2, q3, q4, q5, q6, q7, (H121.pick (t := 9) rfl (H121.pick (t := 2) rfl (H121.pick (t := 3) rfl (H121.pick (t := 7) rfl (H121.pick (t := 8) rfl H121.nil))))), O117.sel [1, 2] (by decide), ?_, ?_, ?_, ?_, ?_, ?_, ?_, ?_, ?_, rfl⟩
   ·
    rw [hm29]; omega
   ·
    omega
   ·
    rw [cnt_succ rs i 0 (by omega) (by omega)]; unfold clsL; (repeat' split) <;> omega
   ·
    rw [cnt_succ rs i 1 (by omega) (by omega)]; unfold clsL; (repeat' split) <;> omega
   ·
    rw [cnt_succ rs i 2 (by omega) (by omega)]; unfold clsL; (repeat' split) <;> omega
   ·
    rw [cnt_succ rs i 3 (by omega) (by omega)]; unfold clsL; (repeat' split) <;> omega
   ·
    rw [cnt_succ rs i 4 (by omega) (by omega)]; unfold clsL; (repeat' split) <;> omega
   ·
    rw [cnt_succ rs i 5 (by omega) (by omega)]; unfold clsL; (repeat' split) <;> omega
   ·
    rw [cnt_succ rs i 6 (by omega) (by omega)]; unfold clsL; (repeat' split) <;> omega
   rw [cnt_succ rs i 7 (by omega) (by omega)]; unfold clsL; (repeat' split) <;> omega
  ·
   have H122 := H103.conv (v' := J 1) (congrArg (Value.int .i64) hv104)
   clear H103
   refine V H122 (op_indexP (q := 1) Tryd.underlying31 gwsiz3 rfl (H122.ev rfl) (H122.ev rfl) (by decide) rfl) fun _ H124 => ?_
   refine Vl H124 gwagg3 (O57.get 1 rfl) fun _ H126 => ?_
   refine V H126 (op_add rfl (H126.ev rfl) (ev_c _ _) (by have hb0_ := cnt_b (rs.take i.toNat) 0; have hb1_ := cnt_b (rs.take i.toNat) 1; have hb2_ := cnt_b (rs.take i.toNat) 2; have hb3_ := cnt_b (rs.take i.toNat) 3; have hb4_ := cnt_b (rs.take i.toNat) 4; have hb5_ := cnt_b (rs.take i.toNat) 5; have hb6_ := cnt_b (rs.take i.toNat) 6; have hb7_ := cnt_b (rs.take i.toNat) 7; simp only [List.length_take] at *; omega)) fun _ H128 => ?_
   refine V H128 (op_indexP (q := 1) Tryd.underlying31 gwsiz3 rfl (H128.ev rfl) (H128.ev rfl) (by decide) rfl) fun _ H130 => ?_
   clear H122 H124 H126 H128
   refine gw_set 1 H130 O57 rfl (want_none rfl) rfl (op_store1 gwsiz3 rfl (H130.ev rfl) (H130.ev rfl) rfl (blk_at (O57.get 1 rfl) rfl) (blkf (O57.get 1 rfl))) ?_
   intro _ w133 H132 O134; clear H130 O57
   refine wpList_nil ?_
   refine gw_blk ?_
   refine gw_nx (hK36 _ _ ?_)
   refine wp_region_lit ?_
   refine V H132 (op_add rfl (H132.ev rfl) (ev_c _ _) (by omega)) fun _ H136 => ?_
   refine Vm H136 fun _ H138 => ?_
   clear H132 H136
   refine wpList_nil ?_
   refine gw_nx ⟨_, ?_, i + 1, q0, q1 + 1, q2, q3, q4, q5, q6, q7, (H138.pick (t := 9) rfl (H138.pick (t := 2) rfl (H138.pick (t := 3) rfl (H138.pick (t := 7) rfl (H138.pick (t := 8) rfl H138.nil))))), O134.sel [1, 2] (by decide), ?_, ?_, ?_, ?_, ?_, ?_, ?_, ?_, ?_, rfl⟩
   ·
    rw [hm29]; omega
   ·
    omega
   ·
    rw [cnt_succ rs i 0 (by omega) (by omega)]; unfold clsL; (repeat' split) <;> omega
   ·
    rw [cnt_succ rs i 1 (by omega) (by omega)]; unfold clsL; (repeat' split) <;> omega
   ·
    rw [cnt_succ rs i 2 (by omega) (by omega)]; unfold clsL; (repeat' split) <;> omega
   ·
    rw [cnt_succ rs i 3 (by omega) (by omega)]; unfold clsL; (repeat' split) <;> omega
   ·
    rw [cnt_succ rs i 4 (by omega) (by omega)]; unfold clsL; (repeat' split) <;> omega
   ·
    rw [cnt_succ rs i 5 (by omega) (by omega)]; unfold clsL; (repeat' split) <;> omega
   ·
    rw [cnt_succ rs i 6 (by omega) (by omega)]; unfold clsL; (repeat' split) <;> omega
   rw [cnt_succ rs i 7 (by omega) (by omega)]; unfold clsL; (repeat' split) <;> omega
  ·
   have H139 := H103.conv (v' := J 2) (congrArg (Value.int .i64) hv104)
   clear H103
   refine V H139 (op_indexP (q := 2) Tryd.underlying31 gwsiz3 rfl (H139.ev rfl) (H139.ev rfl) (by decide) rfl) fun _ H141 => ?_
   refine Vl H141 gwagg3 (O57.get 1 rfl) fun _ H143 => ?_
   refine V H143 (op_add rfl (H143.ev rfl) (ev_c _ _) (by have hb0_ := cnt_b (rs.take i.toNat) 0; have hb1_ := cnt_b (rs.take i.toNat) 1; have hb2_ := cnt_b (rs.take i.toNat) 2; have hb3_ := cnt_b (rs.take i.toNat) 3; have hb4_ := cnt_b (rs.take i.toNat) 4; have hb5_ := cnt_b (rs.take i.toNat) 5; have hb6_ := cnt_b (rs.take i.toNat) 6; have hb7_ := cnt_b (rs.take i.toNat) 7; simp only [List.length_take] at *; omega)) fun _ H145 => ?_
   refine V H145 (op_indexP (q := 2) Tryd.underlying31 gwsiz3 rfl (H145.ev rfl) (H145.ev rfl) (by decide) rfl) fun _ H147 => ?_
   clear H139 H141 H143 H145
   refine gw_set 1 H147 O57 rfl (want_none rfl) rfl (op_store1 gwsiz3 rfl (H147.ev rfl) (H147.ev rfl) rfl (blk_at (O57.get 1 rfl) rfl) (blkf (O57.get 1 rfl))) ?_
   intro _ w150 H149 O151; clear H147 O57
   refine wpList_nil ?_
   refine gw_blk ?_
   refine gw_nx (hK36 _ _ ?_)
   refine wp_region_lit ?_
   refine V H149 (op_add rfl (H149.ev rfl) (ev_c _ _) (by omega)) fun _ H153 => ?_
   refine Vm H153 fun _ H155 => ?_
   clear H149 H153
   refine wpList_nil ?_
   refine gw_nx ⟨_, ?_, i + 1, q0, q1, q2 + 1, q3, q4, q5, q6, q7, (H155.pick (t := 9) rfl (H155.pick (t := 2) rfl (H155.pick (t := 3) rfl (H155.pick (t := 7) rfl (H155.pick (t := 8) rfl H155.nil))))), O151.sel [1, 2] (by decide), ?_, ?_, ?_, ?_, ?_, ?_, ?_, ?_, ?_, rfl⟩
   ·
    rw [hm29]; omega
   ·
    omega
   ·
    rw [cnt_succ rs i 0 (by omega) (by omega)]; unfold clsL; (repeat' split) <;> omega
   ·
    rw [cnt_succ rs i 1 (by omega) (by omega)]; unfold clsL; (repeat' split) <;> omega
   ·
    rw [cnt_succ rs i 2 (by omega) (by omega)]; unfold clsL; (repeat' split) <;> omega
   ·
    rw [cnt_succ rs i 3 (by omega) (by omega)]; unfold clsL; (repeat' split) <;> omega
   ·
    rw [cnt_succ rs i 4 (by omega) (by omega)]; unfold clsL; (repeat' split) <;> omega
   ·
    rw [cnt_succ rs i 5 (by omega) (by omega)]; unfold clsL; (repeat' split) <;> omega
   ·
    rw [cnt_succ rs i 6 (by omega) (by omega)]; unfold clsL; (repeat' split) <;> omega
   rw [cnt_succ rs i 7 (by omega) (by omega)]; unfold clsL; (repeat' split) <;> omega
  ·
   have H156 := H103.conv (v' := J 3) (congrArg (Value.int .i64) hv104)
   clear H103
   refine V H156 (op_indexP (q := 3) Tryd.underlying31 gwsiz3 rfl (H156.ev rfl) (H156.ev rfl) (by decide) rfl) fun _ H158 => ?_
   refine Vl H158 gwagg3 (O57.get 1 rfl) fun _ H160 => ?_
   refine V H160 (op_add rfl (H160.ev rfl) (ev_c _ _) (by have hb0_ := cnt_b (rs.take i.toNat) 0; have hb1_ := cnt_b (rs.take i.toNat) 1; have hb2_ := cnt_b (rs.take i.toNat) 2; have hb3_ := cnt_b (rs.take i.toNat) 3; have hb4_ := cnt_b (rs.take i.toNat) 4; have hb5_ := cnt_b (rs.take i.toNat) 5; have hb6_ := cnt_b (rs.take i.toNat) 6; have hb7_ := cnt_b (rs.take i.toNat) 7; simp only [List.length_take] at *; omega)) fun _ H162 => ?_
   refine V H162 (op_indexP (q := 3) Tryd.underlying31 gwsiz3 rfl (H162.ev rfl) (H162.ev rfl) (by decide) rfl) fun _ H164 => ?_
   clear H156 H158 H160 H162
   refine gw_set 1 H164 O57 rfl (want_none rfl) rfl (op_store1 gwsiz3 rfl (H164.ev rfl) (H164.ev rfl) rfl (blk_at (O57.get 1 rfl) rfl) (blkf (O57.get 1 rfl))) ?_
   intro _ w167 H166 O168; clear H164 O57
   refine wpList_nil ?_
   refine gw_blk ?_
   refine gw_nx (hK36 _ _ ?_)
   refine wp_region_lit ?_
   refine V H166 (op_add rfl (H166.ev rfl) (ev_c _ _) (by omega)) fun _ H170 => ?_
   refine Vm H170 fun _ H172 => ?_
   clear H166 H170
   refine wpList_nil ?_
   refine gw_nx ⟨_, ?_, i + 1, q0, q1, q2, q3 + 1, q4, q5, q6, q7, (H172.pick (t := 9) rfl (H172.pick (t := 2) rfl (H172.pick (t := 3) rfl (H172.pick (t := 7) rfl (H172.pick (t := 8) rfl H172.nil))))), O168.sel [1, 2] (by decide), ?_, ?_, ?_, ?_, ?_, ?_, ?_, ?_, ?_, rfl⟩
   ·
    rw [hm29]; omega
   ·
    omega
   ·
    rw [cnt_succ rs i 0 (by omega) (by omega)]; unfold clsL; (repeat' split) <;> omega
   ·
    rw [cnt_succ rs i 1 (by omega) (by omega)]; unfold clsL; (repeat' split) <;> omega
   ·
    rw [cnt_succ rs i 2 (by omega) (by omega)]; unfold clsL; (repeat' split) <;> omega
   ·
    rw [cnt_succ rs i 3 (by omega) (by omega)]; unfold clsL; (repeat' split) <;> omega
   ·
    rw [cnt_succ rs i 4 (by omega) (by omega)]; unfold clsL; (repeat' split) <;> omega
   ·
    rw [cnt_succ rs i 5 (by omega) (by omega)]; unfold clsL; (repeat' split) <;> omega
   ·
    rw [cnt_succ rs i 6 (by omega) (by omega)]; unfold clsL; (repeat' split) <;> omega
   rw [cnt_succ rs i 7 (by omega) (by omega)]; unfold clsL; (repeat' split) <;> omega
  ·
   have H173 := H103.conv (v' := J 4) (congrArg (Value.int .i64) hv104)
   clear H103
   refine V H173 (op_indexP (q := 4) Tryd.underlying31 gwsiz3 rfl (H173.ev rfl) (H173.ev rfl) (by decide) rfl) fun _ H175 => ?_
   refine Vl H175 gwagg3 (O57.get 1 rfl) fun _ H177 => ?_
   refine V H177 (op_add rfl (H177.ev rfl) (ev_c _ _) (by have hb0_ := cnt_b (rs.take i.toNat) 0; have hb1_ := cnt_b (rs.take i.toNat) 1; have hb2_ := cnt_b (rs.take i.toNat) 2; have hb3_ := cnt_b (rs.take i.toNat) 3; have hb4_ := cnt_b (rs.take i.toNat) 4; have hb5_ := cnt_b (rs.take i.toNat) 5; have hb6_ := cnt_b (rs.take i.toNat) 6; have hb7_ := cnt_b (rs.take i.toNat) 7; simp only [List.length_take] at *; omega)) fun _ H179 => ?_
   refine V H179 (op_indexP (q := 4) Tryd.underlying31 gwsiz3 rfl (H179.ev rfl) (H179.ev rfl) (by decide) rfl) fun _ H181 => ?_
   clear H173 H175 H177 H179
   refine gw_set 1 H181 O57 rfl (want_none rfl) rfl (op_store1 gwsiz3 rfl (H181.ev rfl) (H181.ev rfl) rfl (blk_at (O57.get 1 rfl) rfl) (blkf (O57.get 1 rfl))) ?_
   intro _ w184 H183 O185; clear H181 O57
   refine wpList_nil ?_
   refine gw_blk ?_
   refine gw_nx (hK36 _ _ ?_)
   refine wp_region_lit ?_
   refine V H183 (op_add rfl (H183.ev rfl) (ev_c _ _) (by omega)) fun _ H187 => ?_
   refine Vm H187 fun _ H189 => ?_
   clear H183 H187
   refine wpList_nil ?_
   refine gw_nx ⟨_, ?_, i + 1, q0, q1, q2, q3, q4 + 1, q5, q6, q7, (H189.pick (t := 9) rfl (H189.pick (t := 2) rfl (H189.pick (t := 3) rfl (H189.pick (t := 7) rfl (H189.pick (t := 8) rfl H189.nil))))), O185.sel [1, 2] (by decide), ?_, ?_, ?_, ?_, ?_, ?_, ?_, ?_, ?_, rfl⟩
   ·
    rw [hm29]; omega
   ·
    omega
   ·
    rw [cnt_succ rs i 0 (by omega) (by omega)]; unfold clsL; (repeat' split) <;> omega
   ·
    rw [cnt_succ rs i 1 (by omega) (by omega)]; unfold clsL; (repeat' split) <;> omega
   ·
    rw [cnt_succ rs i 2 (by omega) (by omega)]; unfold clsL; (repeat' split) <;> omega
   ·
    rw [cnt_succ rs i 3 (by omega) (by omega)]; unfold clsL; (repeat' split) <;> omega
   ·
    rw [cnt_succ rs i 4 (by omega) (by omega)]; unfold clsL; (repeat' split) <;> omega
   ·
    rw [cnt_succ rs i 5 (by omega) (by omega)]; unfold clsL; (repeat' split) <;> omega
   ·
    rw [cnt_succ rs i 6 (by omega) (by omega)]; unfold clsL; (repeat' split) <;> omega
   rw [cnt_succ rs i 7 (by omega) (by omega)]; unfold clsL; (repeat' split) <;> omega
  ·
   have H190 := H103.conv (v' := J 5) (congrArg (Value.int .i64) hv104)
   clear H103
   refine V H190 (op_indexP (q := 5) Tryd.underlying31 gwsiz3 rfl (H190.ev rfl) (H190.ev rfl) (by decide) rfl) fun _ H192 => ?_
   refine Vl H192 gwagg3 (O57.get 1 rfl) fun _ H194 => ?_
   refine V H194 (op_add rfl (H194.ev rfl) (ev_c _ _) (by have hb0_ := cnt_b (rs.take i.toNat) 0; have hb1_ := cnt_b (rs.take i.toNat) 1; have hb2_ := cnt_b (rs.take i.toNat) 2; have hb3_ := cnt_b (rs.take i.toNat) 3; have hb4_ := cnt_b (rs.take i.toNat) 4; have hb5_ := cnt_b (rs.take i.toNat) 5; have hb6_ := cnt_b (rs.take i.toNat) 6; have hb7_ := cnt_b (rs.take i.toNat) 7; simp only [List.length_take] at *; omega)) fun _ H196 => ?_
   refine V H196 (op_indexP (q := 5) Tryd.underlying31 gwsiz3 rfl (H196.ev rfl) (H196.ev rfl) (by decide) rfl) fun _ H198 => ?_
   clear H190 H192 H194 H196
   refine gw_set 1 H198 O57 rfl (want_none rfl) rfl (op_store1 gwsiz3 rfl (H198.ev rfl) (H198.ev rfl) rfl (blk_at (O57.get 1 rfl) rfl) (blkf (O57.get 1 rfl))) ?_
   intro _ w201 H200 O202; clear H198 O57
   refine wpList_nil ?_
   refine gw_blk ?_
   refine gw_nx (hK36 _ _ ?_)
   refine wp_region_lit ?_
   refine V H200 (op_add rfl (H200.ev rfl) (ev_c _ _) (by omega)) fun _ H204 => ?_
   refine Vm H204 fun _ H206 => ?_
   clear H200 H204
   refine wpList_nil ?_
   refine gw_nx ⟨_, ?_, i + 1, q0, q1, q2, q3, q4, q5 + 1, q6, q7, (H206.pick (t := 9) rfl (H206.pick (t := 2) rfl (H206.pick (t := 3) rfl (H206.pick (t := 7) rfl (H206.pick (t := 8) rfl H206.nil))))), O202.sel [1, 2] (by decide), ?_, ?_, ?_, ?_, ?_, ?_, ?_, ?_, ?_, rfl⟩
   ·
    rw [hm29]; omega
   ·
    omega
   ·
    rw [cnt_succ rs i 0 (by omega) (by omega)]; unfold clsL; (repeat' split) <;> omega
   ·
    rw [cnt_succ rs i 1 (by omega) (by omega)]; unfold clsL; (repeat' split) <;> omega
   ·
    rw [cnt_succ rs i 2 (by omega) (by omega)]; unfold clsL; (repeat' split) <;> omega
   ·
    rw [cnt_succ rs i 3 (by omega) (by omega)]; unfold clsL; (repeat' split) <;> omega
   ·
    rw [cnt_succ rs i 4 (by omega) (by omega)]; unfold clsL; (repeat' split) <;> omega
   ·
    rw [cnt_succ rs i 5 (by omega) (by omega)]; unfold clsL; (repeat' split) <;> omega
   ·
    rw [cnt_succ rs i 6 (by omega) (by omega)]; unfold clsL; (repeat' split) <;> omega
   rw [cnt_succ rs i 7 (by omega) (by omega)]; unfold clsL; (repeat' split) <;> omega
  ·
   have H207 := H103.conv (v' := J 6) (congrArg (Value.int .i64) hv104)
   clear H103
   refine V H207 (op_indexP (q := 6) Tryd.underlying31 gwsiz3 rfl (H207.ev rfl) (H207.ev rfl) (by decide) rfl) fun _ H209 => ?_
   refine Vl H209 gwagg3 (O57.get 1 rfl) fun _ H211 => ?_
   refine V H211 (op_add rfl (H211.ev rfl) (ev_c _ _) (by have hb0_ := cnt_b (rs.take i.toNat) 0; have hb1_ := cnt_b (rs.take i.toNat) 1; have hb2_ := cnt_b (rs.take i.toNat) 2; have hb3_ := cnt_b (rs.take i.toNat) 3; have hb4_ := cnt_b (rs.take i.toNat) 4; have hb5_ := cnt_b (rs.take i.toNat) 5; have hb6_ := cnt_b (rs.take i.toNat) 6; have hb7_ := cnt_b (rs.take i.toNat) 7; simp only [List.length_take] at *; omega)) fun _ H213 => ?_
   refine V H213 (op_indexP (q := 6) Tryd.underlying31 gwsiz3 rfl (H213.ev rfl) (H213.ev rfl) (by decide) rfl) fun _ H215 => ?_
   clear H207 H209 H211 H213
   refine gw_set 1 H215 O57 rfl (want_none rfl) rfl (op_store1 gwsiz3 rfl (H215.ev rfl) (H215.ev rfl) rfl (blk_at (O57.get 1 rfl) rfl) (blkf (O57.get 1 rfl))) ?_
   intro _ w218 H217 O219; clear H215 O57
   refine wpList_nil ?_
   refine gw_blk ?_
   refine gw_nx (hK36 _ _ ?_)
   refine wp_region_lit ?_
   refine V H217 (op_add rfl (H217.ev rfl) (ev_c _ _) (by omega)) fun _ H221 => ?_
   refine Vm H221 fun _ H223 => ?_
   clear H217 H221
   refine wpList_nil ?_
   refine gw_nx ⟨_, ?_, i + 1, q0, q1, q2, q3, q4, q5, q6 + 1, q7, (H223.pick (t := 9) rfl (H223.pick (t := 2) rfl (H223.pick (t := 3) rfl (H223.pick (t := 7) rfl (H223.pick (t := 8) rfl H223.nil))))), O219.sel [1, 2] (by decide), ?_, ?_, ?_, ?_, ?_, ?_, ?_, ?_, ?_, rfl⟩
   ·
    rw [hm29]; omega
   ·
    omega
   ·
    rw [cnt_succ rs i 0 (by omega) (by omega)]; unfold clsL; (repeat' split) <;> omega
   ·
    rw [cnt_succ rs i 1 (by omega) (by omega)]; unfold clsL; (repeat' split) <;> omega
   ·
    rw [cnt_succ rs i 2 (by omega) (by omega)]; unfold clsL; (repeat' split) <;> omega
   ·
    rw [cnt_succ rs i 3 (by omega) (by omega)]; unfold clsL; (repeat' split) <;> omega
   ·
    rw [cnt_succ rs i 4 (by omega) (by omega)]; unfold clsL; (repeat' split) <;> omega
   ·
    rw [cnt_succ rs i 5 (by omega) (by omega)]; unfold clsL; (repeat' split) <;> omega
   ·
    rw [cnt_succ rs i 6 (by omega) (by omega)]; unfold clsL; (repeat' split) <;> omega
   rw [cnt_succ rs i 7 (by omega) (by omega)]; unfold clsL; (repeat' split) <;> omega
  have H224 := H103.conv (v' := J 7) (congrArg (Value.int .i64) hv104)
  clear H103
  refine V H224 (op_indexP (q := 7) Tryd.underlying31 gwsiz3 rfl (H224.ev rfl) (H224.ev rfl) (by decide) rfl) fun _ H226 => ?_
  refine Vl H226 gwagg3 (O57.get 1 rfl) fun _ H228 => ?_
  refine V H228 (op_add rfl (H228.ev rfl) (ev_c _ _) (by have hb0_ := cnt_b (rs.take i.toNat) 0; have hb1_ := cnt_b (rs.take i.toNat) 1; have hb2_ := cnt_b (rs.take i.toNat) 2; have hb3_ := cnt_b (rs.take i.toNat) 3; have hb4_ := cnt_b (rs.take i.toNat) 4; have hb5_ := cnt_b (rs.take i.toNat) 5; have hb6_ := cnt_b (rs.take i.toNat) 6; have hb7_ := cnt_b (rs.take i.toNat) 7; simp only [List.length_take] at *; omega)) fun _ H230 => ?_
  refine V H230 (op_indexP (q := 7) Tryd.underlying31 gwsiz3 rfl (H230.ev rfl) (H230.ev rfl) (by decide) rfl) fun _ H232 => ?_
  clear H224 H226 H228 H230
  refine gw_set 1 H232 O57 rfl (want_none rfl) rfl (op_store1 gwsiz3 rfl (H232.ev rfl) (H232.ev rfl) rfl (blk_at (O57.get 1 rfl) rfl) (blkf (O57.get 1 rfl))) ?_
  intro _ w235 H234 O236; clear H232 O57
  refine wpList_nil ?_
  refine gw_blk ?_
  refine gw_nx (hK36 _ _ ?_)
  refine wp_region_lit ?_
  refine V H234 (op_add rfl (H234.ev rfl) (ev_c _ _) (by omega)) fun _ H238 => ?_
  refine Vm H238 fun _ H240 => ?_
  clear H234 H238
  refine wpList_nil ?_
  refine gw_nx ⟨_, ?_, i + 1, q0, q1, q2, q3, q4, q5, q6, q7 + 1, (H240.pick (t := 9) rfl (H240.pick (t := 2) rfl (H240.pick (t := 3) rfl (H240.pick (t := 7) rfl (H240.pick (t := 8) rfl H240.nil))))), O236.sel [1, 2] (by decide), ?_, ?_, ?_, ?_, ?_, ?_, ?_, ?_, ?_, rfl⟩
  ·
   rw [hm29]; omega
  ·
   omega
  ·
   rw [cnt_succ rs i 0 (by omega) (by omega)]; unfold clsL; (repeat' split) <;> omega
  ·
   rw [cnt_succ rs i 1 (by omega) (by omega)]; unfold clsL; (repeat' split) <;> omega
  ·
   rw [cnt_succ rs i 2 (by omega) (by omega)]; unfold clsL; (repeat' split) <;> omega
  ·
   rw [cnt_succ rs i 3 (by omega) (by omega)]; unfold clsL; (repeat' split) <;> omega
  ·
   rw [cnt_succ rs i 4 (by omega) (by omega)]; unfold clsL; (repeat' split) <;> omega
  ·
   rw [cnt_succ rs i 5 (by omega) (by omega)]; unfold clsL; (repeat' split) <;> omega
  ·
   rw [cnt_succ rs i 6 (by omega) (by omega)]; unfold clsL; (repeat' split) <;> omega
  rw [cnt_succ rs i 7 (by omega) (by omega)]; unfold clsL; (repeat' split) <;> omega
 have H241 := H32.subst_ (d := 10) (b := false) rfl hb34
 clear H32
 (try simp only [decide_eq_false_iff_not, Int.not_lt] at hb34)
 refine wp_exit ?_
 refine gw_thx ?_
 refine gw_thx ?_
 refine gw_in ?_
 refine gw_nx (hK15 _ _ ?_)
 refine gR fun K242 hK242 => ?_
 refine V H241 (op_loadn gwagg31 gwsiz31 rfl (H241.ev rfl) (O28.get 0 rfl) rfl rfl) fun _ H244 => ?_
 clear H241
 refine gw_setn 1 H244 O28 rfl (want_none rfl) rfl (op_storen gwsiz31 rfl (H244.ev rfl) (H244.ev rfl) (O28.get 1 rfl) rfl (by simp) (by simp [Value.oneCell'])) ?_
 intro _ w247 H246 O248; clear H244 O28
 refine gE hK242 ?_
 refine wp_ret ?_
 refine gw_rets1 H246 rfl (rv_celln H246 rfl gwagg31 gwsiz31 (O248.get 1 rfl) rfl) ?_
 have et : rs.take i.toNat = rs := List.take_of_length_le (by omega)
 rw [et] at hq0 hq1 hq2 hq3 hq4 hq5 hq6 hq7
 exact ⟨by rw [hq0, hq1, hq2, hq3, hq4, hq5, hq6, hq7] <;> rfl, O248.below⟩
end GCountE_
export GCountE_ (count_calls)
section
section
variable {P : Program} {o : Oper} {a : Act} {w : World} {x y : Operand} {t : TypeId} {s : ByteArray}
theorem op_scut {lo hi : Option Operand} {l h : Nat} {lo' hi' : Option Value} (ht : P.underlying t = some .string) (ho : o.op = .slice t x lo hi none) (hx : a.eval x = .string s) (hlo : lo.map a.eval = lo') (hhi : hi.map a.eval = hi')
    (hb : (Instr.sliceBounds false s.size s.size lo' hi' none).run P w = .ok (l, h, s.size) w) : Runs P o a w (.string (s.extract l h)) w := by
  unfold Runs execOp
  simp only [ho, hx, hlo, hhi, Option.map_none]
  have h1 : (Instr.slice t (.string s) lo' hi' none).run P w = .ok (.string (s.extract l h)) w := by
    unfold Instr.slice
    simp only [Sem.run_bind, run_underlying ht, Result.andThen_ok, Option.isSome_none, Bool.false_eq_true, if_false, hb, Sem.run_pure]
  simp only [Sem.run_bind, run_sliceAt_string _ _ _ _ _ _ ht, h1, Result.andThen_ok, Sem.run_pure]
theorem sb_lo {k : IntKind} {i : Int} (h : 0 ≤ i ∧ i ≤ s.size) : (Instr.sliceBounds false s.size s.size (some (.int k i)) none none).run P w = .ok (i.toNat, s.size, s.size) w := by
  simp [Instr.sliceBounds, Instr.sliceBound, go_sem, h.1, h.2]
theorem sb_hi {k : IntKind} {i : Int} (h : 0 ≤ i ∧ i ≤ s.size) : (Instr.sliceBounds false s.size s.size none (some (.int k i)) none).run P w = .ok (0, i.toNat, s.size) w := by
  simp [Instr.sliceBounds, Instr.sliceBound, go_sem, h.1, h.2]
end
end
namespace GTotals_
theorem totals_calls (su bo : ByteArray) (A0 : Option Addr) (c0 : Nat) (ps : List S46) (w : World) (hr : Kd.C k46 w A0 ps.length ps) (hc : ps.length ≤ c0) (hsm : sumL ps ≤ 1000000000) :
    Calls Tryd.prog 12 #[.agg #[.string su, .string bo, .slice A0 ps.length c0]] w fun e w' => e = .returned (.agg #[.int .i64 (totL ps 0), .int .i64 (totL ps 1), .int .i64 (totL ps 2), .int .i64 (totL ps 3), .int .i64 (totL ps 4), .int .i64 (totL ps 5), .int .i64 (totL ps 6), .int .i64 (totL ps 7)]) ∧ Below w.heap.size w w' := by
 have hpl := len_C hr
 refine gw_start (N := 31) (vs := [.agg #[.string su, .string bo, .slice A0 ps.length c0]]) Tryd.func12 rfl rfl (by simp) fun a HF HO => ?_
 replace HO : Own w w [] := HO
 refine gR fun K1 hK1 => ?_
 refine gw_new HF HO (want_none rfl) rfl (by decide) (op_box rfl (HF.ev rfl)) ?_
 intro g2 _ w4 H5 O6; clear HF HO
 have O7 : Own w w4 [Bk g2 [.string su, .string bo, .slice A0 ps.length c0] 24] := O6
 clear O6
 refine gw_new H5 O7 (want_none rfl) rfl (by decide) (op_alloc gwzer31 rfl) ?_
 intro g8 _ w10 H11 O12; clear H5 O7
 have O13 : Own w w10 [Bk g8 [J 0, J 0, J 0, J 0, J 0, J 0, J 0, J 0] 31, Bk g2 [.string su, .string bo, .slice A0 ps.length c0] 24] := O12
 clear O12
 refine gE hK1 ?_
 refine gR fun K14 hK14 => ?_
 refine gw_new H11 O13 (want_none rfl) rfl (by decide) (op_alloc gwzer31 rfl) ?_
 intro g15 _ w17 H18 O19; clear H11 O13
 have O20 : Own w w17 [Bk g15 [J 0, J 0, J 0, J 0, J 0, J 0, J 0, J 0] 31, Bk g8 [J 0, J 0, J 0, J 0, J 0, J 0, J 0, J 0] 31, Bk g2 [.string su, .string bo, .slice A0 ps.length c0] 24] := O19
 clear O19
 refine gE hK14 ?_
 refine gw_seq fun K21 hK21 => ?_
 refine gR fun K22 hK22 => ?_
 refine Vf H18 (gwfld24_2 _ _) fun _ H24 => ?_
 refine Vl H24 gwagg22 (O20.get 2 rfl) fun _ H26 => ?_
 refine V H26 (op_len Tryd.underlying22 rfl (H26.ev rfl)) fun _ H28 => ?_
 refine V H28 (op_move rfl (ev_c _ _)) fun _ H30 => ?_
 refine gE hK22 ?_
 clear H18 H24 H26 H28
 refine wp_block ?_
 refine gw_loop (fun m_ a_ w_ => ∃ (i : Int) (q0 : Int) (q1 : Int) (q2 : Int) (q3 : Int) (q4 : Int) (q5 : Int) (q6 : Int) (q7 : Int), Fr 31 a_ [(11, J i), (2, .pointer (some ⟨g8, 0, none⟩)), (3, .pointer (some ⟨g15, 0, none⟩)), (9, .slice A0 ps.length c0), (10, J (ps.length : Int))] ∧ Own w w_ [Bk g15 [J q0, J q1, J q2, J q3, J q4, J q5, J q6, J q7] 31, Bk g8 [J 0, J 0, J 0, J 0, J 0, J 0, J 0, J 0] 31, Bk g2 [.string su, .string bo, .slice A0 ps.length c0] 24] ∧ (0 ≤ i ∧ i ≤ ps.length) ∧ (q0 = totL (ps.take i.toNat) 0) ∧ (q1 = totL (ps.take i.toNat) 1) ∧ (q2 = totL (ps.take i.toNat) 2) ∧ (q3 = totL (ps.take i.toNat) 3) ∧ (q4 = totL (ps.take i.toNat) 4) ∧ (q5 = totL (ps.take i.toNat) 5) ∧ (q6 = totL (ps.take i.toNat) 6) ∧ (q7 = totL (ps.take i.toNat) 7) ∧ m_ = (ps.length - i.toNat)) ((ps.length - (0 : Int).toNat)) ?_ ?_
 ·
  refine ⟨0, 0, 0, 0, 0, 0, 0, 0, 0, (H30.pick (t := 11) rfl (H30.pick (t := 2) rfl (H30.pick (t := 3) rfl (H30.pick (t := 9) rfl (H30.pick (t := 10) rfl H30.nil))))), O20.sel [0, 1, 2] (by decide), ?_, ?_, ?_, ?_, ?_, ?_, ?_, ?_, ?_, rfl⟩
  ·
   omega
  ·
   simp [totL]
  ·
   simp [totL]
  ·
   simp [totL]
  ·
   simp [totL]
  ·
   simp [totL]
  ·
   simp [totL]
  ·
   simp [totL]
  simp [totL]
 rintro m32 _ w34 ⟨i, q0, q1, q2, q3, q4, q5, q6, q7, H35, O36, hi, hq0, hq1, hq2, hq3, hq4, hq5, hq6, hq7, hm37⟩
 refine gR fun K38 hK38 => ?_
 refine V H35 (op_lss rfl (H35.ev rfl) (H35.ev rfl)) fun _ H40 => ?_
 refine gE hK38 ?_
 refine gw_seq fun K41 hK41 => ?_
 clear H35
 refine gw_cond H40 rfl (fun hb42 => ?_) (fun hb42 => ?_)
 ·
  have H43 := H40.subst_ (d := 12) (b := true) rfl hb42
  clear H40
  (try simp only [decide_eq_true_eq] at hb42)
  refine gS hK41 ?_
  refine gw_seq fun K44 hK44 => ?_
  refine wp_block ?_
  refine gR fun K45 hK45 => ?_
  obtain ⟨ad46, cs49, hA47, hl50, hK51, hc48⟩ := Kd.C_get hr z46 i (by omega) (by omega)
  obtain ⟨A52, c53, rfl, hl54, hC55⟩ := k46_open hK51
  clear hl50
  refine V H43 (op_index Tryd.underlying22 gwsiz46 rfl (H43.ev rfl) (H43.ev rfl) hA47 (⟨by omega, by omega⟩)) fun _ H57 => ?_
  refine V H57 (op_loadc gwagg46 gwsiz46 rfl (H57.ev rfl) rfl (cells0 O36 hc48)) fun _ H59 => ?_
  clear H43 H57
  refine gw_new H59 O36 (want_none rfl) rfl (by decide) (op_alloc gwzer46 rfl) ?_
  intro g60 _ w62 H63 O64; clear H59 O36
  have O65 : Own w w62 [Bk g60 [.string (⟨#[]⟩ : ByteArray), .slice none 0 0] 46, Bk g15 [J q0, J q1, J q2, J q3, J q4, J q5, J q6, J q7] 31, Bk g8 [J 0, J 0, J 0, J 0, J 0, J 0, J 0, J 0] 31, Bk g2 [.string su, .string bo, .slice A0 ps.length c0] 24] := O64
  clear O64
  refine gw_setn 0 H63 O65 rfl (want_none rfl) rfl (op_storen gwsiz46 rfl (H63.ev rfl) (H63.ev rfl) (O65.get 0 rfl) rfl (by simp) (by simp [Value.oneCell'])) ?_
  intro _ w68 H67 O69; clear H63 O65
  refine gE hK45 ?_
  refine gR fun K70 hK70 => ?_
  refine Vf H67 (gwfld46_1 _ _) fun _ H72 => ?_
  refine Vl H72 gwagg44 (O69.get 0 rfl) fun _ H74 => ?_
  clear H67 H72
  refine Wk H74 Tryd.func22 rfl (ar_cons (H74.ev rfl) ar_nil) (count_calls A52 c53 ((ps.getD i.toNat z46).f1) _ (Kd.C_below hC55 O69.below) hl54 (len_C (Kd.C_below hC55 O69.below))) ?_
  rintro e75 w76 ⟨rfl, hb77⟩
  refine ⟨_, rfl, fun _ H79 => ?_⟩
  have O80 := O69.after hb77
  clear H74 O69 hb77
  refine V H79 (op_move rfl (ev_c _ _)) fun _ H83 => ?_
  refine gE hK70 ?_
  clear H79
  refine wp_block ?_
  refine gw_loop (fun m_ a_ w_ => ∃ (vix : Int) (r0 : Int) (r1 : Int) (r2 : Int) (r3 : Int) (r4 : Int) (r5 : Int) (r6 : Int) (r7 : Int), Fr 31 a_ [(18, J vix), (11, J i), (2, .pointer (some ⟨g8, 0, none⟩)), (3, .pointer (some ⟨g15, 0, none⟩)), (9, .slice A0 ps.length c0), (10, J (ps.length : Int)), (12, .bool true), (13, .pointer (some (ad46.add (i.toNat * 2)))), (14, .agg #[.string ((ps.getD i.toNat z46).f0), .slice A52 ((ps.getD i.toNat z46).f1.length) c53]), (5, .pointer (some ⟨g60, 0, none⟩)), (15, .pointer (some ⟨g60, 1, none⟩)), (16, .slice A52 ((ps.getD i.toNat z46).f1.length) c53), (17, .agg #[J (cntL ((ps.getD i.toNat z46).f1) 0), J (cntL ((ps.getD i.toNat z46).f1) 1), J (cntL ((ps.getD i.toNat z46).f1) 2), J (cntL ((ps.getD i.toNat z46).f1) 3), J (cntL ((ps.getD i.toNat z46).f1) 4), J (cntL ((ps.getD i.toNat z46).f1) 5), J (cntL ((ps.getD i.toNat z46).f1) 6), J (cntL ((ps.getD i.toNat z46).f1) 7)])] ∧ Own w w_ [Bk g15 [J r0, J r1, J r2, J r3, J r4, J r5, J r6, J r7] 31, Bk g60 [.string ((ps.getD i.toNat z46).f0), .slice A52 ((ps.getD i.toNat z46).f1.length) c53] 46, Bk g8 [J 0, J 0, J 0, J 0, J 0, J 0, J 0, J 0] 31, Bk g2 [.string su, .string bo, .slice A0 ps.length c0] 24] ∧ (0 ≤ vix ∧ vix ≤ 8) ∧ (r0 = q0 + (if 0 < vix then cntL (ps.getD i.toNat z46).f1 0 else 0)) ∧ (r1 = q1 + (if 1 < vix then cntL (ps.getD i.toNat z46).f1 1 else 0)) ∧ (r2 = q2 + (if 2 < vix then cntL (ps.getD i.toNat z46).f1 2 else 0)) ∧ (r3 = q3 + (if 3 < vix then cntL (ps.getD i.toNat z46).f1 3 else 0)) ∧ (r4 = q4 + (if 4 < vix then cntL (ps.getD i.toNat z46).f1 4 else 0)) ∧ (r5 = q5 + (if 5 < vix then cntL (ps.getD i.toNat z46).f1 5 else 0)) ∧ (r6 = q6 + (if 6 < vix then cntL (ps.getD i.toNat z46).f1 6 else 0)) ∧ (r7 = q7 + (if 7 < vix then cntL (ps.getD i.toNat z46).f1 7 else 0)) ∧ m_ = (8 - vix.toNat)) ((8 - (0 : Int).toNat)) ?_ ?_
  ·
   refine ⟨0, q0, q1, q2, q3, q4, q5, q6, q7, (H83.pick (t := 18) rfl (H83.pick (t := 11) rfl (H83.pick (t := 2) rfl (H83.pick (t := 3) rfl (H83.pick (t := 9) rfl (H83.pick (t := 10) rfl (H83.pick (t := 12) rfl (H83.pick (t := 13) rfl (H83.pick (t := 14) rfl (H83.pick (t := 5) rfl (H83.pick (t := 15) rfl (H83.pick (t := 16) rfl (H83.pick (t := 17) rfl H83.nil))))))))))))), O80.sel [1, 0, 2, 3] (by decide), ?_, ?_, ?_, ?_, ?_, ?_, ?_, ?_, ?_, rfl⟩
   ·
    omega
   ·
    simp
   ·
    simp
   ·
    simp
   ·
    simp
   ·
    simp
   ·
    simp
   ·
    simp
   simp
  rintro m85 _ w87 ⟨vix, r0, r1, r2, r3, r4, r5, r6, r7, H88, O89, hv, hr0, hr1, hr2, hr3, hr4, hr5, hr6, hr7, hm90⟩
  rcases (show vix = 0 ∨ vix = 1 ∨ vix = 2 ∨ vix = 3 ∨ vix = 4 ∨ vix = 5 ∨ vix = 6 ∨ vix = 7 ∨ vix = 8 from by omega) with rfl | rfl | rfl | rfl | rfl | rfl | rfl | rfl | rfl
  ·
   refine gR fun K91 hK91 => ?_
   refine V H88 (op_lss rfl (H88.ev rfl) (ev_c _ _)) fun _ H93 => ?_
   clear H88
   have H94 := H93.lit (b := true) (by decide)
   clear H93
   refine gE hK91 ?_
   refine gw_seq fun K95 hK95 => ?_
   refine gw_cond H94 rfl (fun hb96 => ?_) (fun hb96 => ?_)
   rotate_left
   ·
    cases hb96
   refine gS hK95 ?_
   refine gw_seq fun K97 hK97 => ?_
   refine wp_block ?_
   refine gR fun K98 hK98 => ?_
   refine Vm H94 fun _ H100 => ?_
   refine V H100 (op_aidx Tryd.underlying31 gwsiz3 gwagg3 rfl (H100.ev rfl) (H100.ev rfl) (by decide) rfl) fun _ H102 => ?_
   refine Va H102 fun _ H104 => ?_
   refine Va H104 fun _ H106 => ?_
   refine gE hK98 ?_
   clear H94 H100 H102 H104
   refine wp_region_lit ?_
   refine Vm H106 fun _ H108 => ?_
   refine V H108 (op_indexP (q := 0) Tryd.underlying31 gwsiz3 rfl (H108.ev rfl) (H108.ev rfl) (by decide) rfl) fun _ H110 => ?_
   refine Vl H110 gwagg3 (O89.get 0 rfl) fun _ H112 => ?_
   refine Vm H112 fun _ H114 => ?_
   refine V H114 (op_add rfl (H114.ev rfl) (H114.ev rfl) (by have hs_ := sum_part ps i (by omega) (by omega); have hb0_ := tot_b (ps.take i.toNat) 0; have hc0_ := cnt_b (ps.getD i.toNat z46).f1 0; have hb1_ := tot_b (ps.take i.toNat) 1; have hc1_ := cnt_b (ps.getD i.toNat z46).f1 1; have hb2_ := tot_b (ps.take i.toNat) 2; have hc2_ := cnt_b (ps.getD i.toNat z46).f1 2; have hb3_ := tot_b (ps.take i.toNat) 3; have hc3_ := cnt_b (ps.getD i.toNat z46).f1 3; have hb4_ := tot_b (ps.take i.toNat) 4; have hc4_ := cnt_b (ps.getD i.toNat z46).f1 4; have hb5_ := tot_b (ps.take i.toNat) 5; have hc5_ := cnt_b (ps.getD i.toNat z46).f1 5; have hb6_ := tot_b (ps.take i.toNat) 6; have hc6_ := cnt_b (ps.getD i.toNat z46).f1 6; have hb7_ := tot_b (ps.take i.toNat) 7; have hc7_ := cnt_b (ps.getD i.toNat z46).f1 7; (try simp only [Int.reduceLT, reduceIte] at hr0 hr1 hr2 hr3 hr4 hr5 hr6 hr7); omega)) fun _ H116 => ?_
   refine V H116 (op_indexP (q := 0) Tryd.underlying31 gwsiz3 rfl (H116.ev rfl) (H116.ev rfl) (by decide) rfl) fun _ H118 => ?_
   clear H106 H108 H110 H112 H114 H116
   refine gw_set 0 H118 O89 rfl (want_none rfl) rfl (op_store1 gwsiz3 rfl (H118.ev rfl) (H118.ev rfl) rfl (blk_at (O89.get 0 rfl) rfl) (blkf (O89.get 0 rfl))) ?_
   intro _ w121 H120 O122; clear H118 O89
   refine wpList_nil ?_
   refine gw_blk ?_
   refine gw_nx (hK97 _ _ ?_)
   refine wp_region_lit ?_
   refine V H120 (op_add rfl (H120.ev rfl) (ev_c _ _) (by omega)) fun _ H124 => ?_
   refine Vm H124 fun _ H126 => ?_
   clear H120 H124
   refine wpList_nil ?_
   refine gw_nx ⟨_, ?_, 0 + 1, r0 + (cntL ((ps.getD i.toNat z46).f1) 0), r1, r2, r3, r4, r5, r6, r7, (H126.pick (t := 18) rfl (H126.pick (t := 11) rfl (H126.pick (t := 2) rfl (H126.pick (t := 3) rfl (H126.pick (t := 9) rfl (H126.pick (t := 10) rfl (H126.pick (t := 12) rfl (H126.pick (t := 13) rfl (H126.pick (t := 14) rfl (H126.pick (t := 5) rfl (H126.pick (t := 15) rfl (H126.pick (t := 16) rfl (H126.pick (t := 17) rfl H126.nil))))))))))))), O122.sel [0, 1, 2, 3] (by decide), ?_, ?_, ?_, ?_, ?_, ?_, ?_, ?_, ?_, rfl⟩
   ·
    rw [hm90]; omega
   ·
    omega
   ·
    (split at hr0) <;> split <;> omega
   ·
    (split at hr1) <;> split <;> omega
   ·
    (split at hr2) <;> split <;> omega
   ·
    (split at hr3) <;> split <;> omega
   ·
    (split at hr4) <;> split <;> omega
   ·
    (split at hr5) <;> split <;> omega
   ·
    (split at hr6) <;> split <;> omega
   (split at hr7) <;> split <;> omega
  ·
   refine gR fun K127 hK127 => ?_
   refine V H88 (op_lss rfl (H88.ev rfl) (ev_c _ _)) fun _ H129 => ?_
   clear H88
   have H130 := H129.lit (b := true) (by decide)
   clear H129
   refine gE hK127 ?_
   refine gw_seq fun K131 hK131 => ?_
   refine gw_cond H130 rfl (fun hb132 => ?_) (fun hb132 => ?_)
   rotate_left
   ·
    cases hb132
   refine gS hK131 ?_
   refine gw_seq fun K133 hK133 => ?_
   refine wp_block ?_
   refine gR fun K134 hK134 => ?_
   refine Vm H130 fun _ H136 => ?_
   refine V H136 (op_aidx Tryd.underlying31 gwsiz3 gwagg3 rfl (H136.ev rfl) (H136.ev rfl) (by decide) rfl) fun _ H138 => ?_
   refine Va H138 fun _ H140 => ?_
   refine Va H140 fun _ H142 => ?_
   refine gE hK134 ?_
   clear H130 H136 H138 H140
   refine wp_region_lit ?_
   refine Vm H142 fun _ H144 => ?_
   refine V H144 (op_indexP (q := 1) Tryd.underlying31 gwsiz3 rfl (H144.ev rfl) (H144.ev rfl) (by decide) rfl) fun _ H146 => ?_
   refine Vl H146 gwagg3 (O89.get 0 rfl) fun _ H148 => ?_
   refine Vm H148 fun _ H150 => ?_
   refine V H150 (op_add rfl (H150.ev rfl) (H150.ev rfl) (by have hs_ := sum_part ps i (by omega) (by omega); have hb0_ := tot_b (ps.take i.toNat) 0; have hc0_ := cnt_b (ps.getD i.toNat z46).f1 0; have hb1_ := tot_b (ps.take i.toNat) 1; have hc1_ := cnt_b (ps.getD i.toNat z46).f1 1; have hb2_ := tot_b (ps.take i.toNat) 2; have hc2_ := cnt_b (ps.getD i.toNat z46).f1 2; have hb3_ := tot_b (ps.take i.toNat) 3; have hc3_ := cnt_b (ps.getD i.toNat z46).f1 3; have hb4_ := tot_b (ps.take i.toNat) 4; have hc4_ := cnt_b (ps.getD i.toNat z46).f1 4; have hb5_ := tot_b (ps.take i.toNat) 5; have hc5_ := cnt_b (ps.getD i.toNat z46).f1 5; have hb6_ := tot_b (ps.take i.toNat) 6; have hc6_ := cnt_b (ps.getD i.toNat z46).f1 6; have hb7_ := tot_b (ps.take i.toNat) 7; have hc7_ := cnt_b (ps.getD i.toNat z46).f1 7; (try simp only [Int.reduceLT, reduceIte] at hr0 hr1 hr2 hr3 hr4 hr5 hr6 hr7); omega)) fun _ H152 => ?_
   refine V H152 (op_indexP (q := 1) Tryd.underlying31 gwsiz3 rfl (H152.ev rfl) (H152.ev rfl) (by decide) rfl) fun _ H154 => ?_
   clear H142 H144 H146 H148 H150 H152
   refine gw_set 0 H154 O89 rfl (want_none rfl) rfl (op_store1 gwsiz3 rfl (H154.ev rfl) (H154.ev rfl) rfl (blk_at (O89.get 0 rfl) rfl) (blkf (O89.get 0 rfl))) ?_
   intro _ w157 H156 O158; clear H154 O89
   refine wpList_nil ?_
   refine gw_blk ?_
   refine gw_nx (hK133 _ _ ?_)
   refine wp_region_lit ?_
   refine V H156 (op_add rfl (H156.ev rfl) (ev_c _ _) (by omega)) fun _ H160 => ?_
   refine Vm H160 fun _ H162 => ?_
   clear H156 H160
   refine wpList_nil ?_
   refine gw_nx ⟨_, ?_, 1 + 1, r0, r1 + (cntL ((ps.getD i.toNat z46).f1) 1), r2, r3, r4, r5, r6, r7, (H162.pick (t := 18) rfl (H162.pick (t := 11) rfl (H162.pick (t := 2) rfl (H162.pick (t := 3) rfl (H162.pick (t := 9) rfl (H162.pick (t := 10) rfl (H162.pick (t := 12) rfl (H162.pick (t := 13) rfl (H162.pick (t := 14) rfl (H162.pick (t := 5) rfl (H162.pick (t := 15) rfl (H162.pick (t := 16) rfl (H162.pick (t := 17) rfl H162.nil))))))))))))), O158.sel [0, 1, 2, 3] (by decide), ?_, ?_, ?_, ?_, ?_, ?_, ?_, ?_, ?_, rfl⟩
   ·
    rw [hm90]; omega
   ·
    omega
   ·
    (split at hr0) <;> split <;> omega
   ·
    (split at hr1) <;> split <;> omega
   ·
    (split at hr2) <;> split <;> omega
   ·
    (split at hr3) <;> split <;> omega
   ·
    (split at hr4) <;> split <;> omega
   ·
    (split at hr5) <;> split <;> omega
   ·
    (split at hr6) <;> split <;> omega
   (split at hr7) <;> split <;> omega
  ·
   refine gR fun K163 hK163 => ?_
   refine V H88 (op_lss rfl (H88.ev rfl) (ev_c _ _)) fun _ H165 => ?_
   clear H88
   have H166 := H165.lit (b := true) (by decide)
   clear H165
   refine gE hK163 ?_
   refine gw_seq fun K167 hK167 => ?_
   refine gw_cond H166 rfl (fun hb168 => ?_) (fun hb168 => ?_)
   rotate_left
   ·
    cases hb168
   refine gS hK167 ?_
   refine gw_seq fun K169 hK169 => ?_
   refine wp_block ?_
   refine gR fun K170 hK170 => ?_
   refine Vm H166 fun _ H172 => ?_
   refine V H172 (op_aidx Tryd.underlying31 gwsiz3 gwagg3 rfl (H172.ev rfl) (H172.ev rfl) (by decide) rfl) fun _ H174 => ?_
   refine Va H174 fun _ H176 => ?_
   refine Va H176 fun _ H178 => ?_
   refine gE hK170 ?_
   clear H166 H172 H174 H176
   refine wp_region_lit ?_
   refine Vm H178 fun _ H180 => ?_
   refine V H180 (op_indexP (q := 2) Tryd.underlying31 gwsiz3 rfl (H180.ev rfl) (H180.ev rfl) (by decide) rfl) fun _ H182 => ?_
   refine Vl H182 gwagg3 (O89.get 0 rfl) fun _ H184 => ?_
   refine Vm H184 fun _ H186 => ?_
   refine V H186 (op_add rfl (H186.ev rfl) (H186.ev rfl) (by have hs_ := sum_part ps i (by omega) (by omega); have hb0_ := tot_b (ps.take i.toNat) 0; have hc0_ := cnt_b (ps.getD i.toNat z46).f1 0; have hb1_ := tot_b (ps.take i.toNat) 1; have hc1_ := cnt_b (ps.getD i.toNat z46).f1 1; have hb2_ := tot_b (ps.take i.toNat) 2; have hc2_ := cnt_b (ps.getD i.toNat z46).f1 2; have hb3_ := tot_b (ps.take i.toNat) 3; have hc3_ := cnt_b (ps.getD i.toNat z46).f1 3; have hb4_ := tot_b (ps.take i.toNat) 4; have hc4_ := cnt_b (ps.getD i.toNat z46).f1 4; have hb5_ := tot_b (ps.take i.toNat) 5; have hc5_ := cnt_b (ps.getD i.toNat z46).f1 5; have hb6_ := tot_b (ps.take i.toNat) 6; have hc6_ := cnt_b (ps.getD i.toNat z46).f1 6; have hb7_ := tot_b (ps.take i.toNat) 7; have hc7_ := cnt_b (ps.getD i.toNat z46).f1 7; (try simp only [Int.reduceLT, reduceIte] at hr0 hr1 hr2 hr3 hr4 hr5 hr6 hr7); omega)) fun _ H188 => ?_
   refine V H188 (op_indexP (q := 2) Tryd.underlying31 gwsiz3 rfl (H188.ev rfl) (H188.ev rfl) (by decide) rfl) fun _ H190 => ?_
   clear H178 H180 H182 H184 H186 H188
   refine gw_set 0 H190 O89 rfl (want_none rfl) rfl (op_store1 gwsiz3 rfl (H190.ev rfl) (H190.ev rfl) rfl (blk_at (O89.get 0 rfl) rfl) (blkf (O89.get 0 rfl))) ?_
   intro _ w193 H192 O194; clear H190 O89
   refine wpList_nil ?_
   refine gw_blk ?_
   refine gw_nx (hK169 _ _ ?_)
   refine wp_region_lit ?_
   refine V H192 (op_add rfl (H192.ev rfl) (ev_c _ _) (by omega)) fun _ H196 => ?_
   refine Vm H196 fun _ H198 => ?_
   clear H192 H196
   refine wpList_nil ?_
   refine gw_nx ⟨_, ?_, 2 + 1, r0, r1, r2 + (cntL ((ps.getD i.toNat z46).f1) 2), r3, r4, r5, r6, r7, (H198.pick (t := 18) rfl (H198.pick (t := 11) rfl (H198.pick (t := 2) rfl (H198.pick (t := 3) rfl (H198.pick (t := 9) rfl (H198.pick (t := 10) rfl (H198.pick (t := 12) rfl (H198.pick (t := 13) rfl (H198.pick (t := 14) rfl (H198.pick (t := 5) rfl (H198.pick (t := 15) rfl (H198.pick (t := 16) rfl (H198.pick (t := 17) rfl H198.nil))))))))))))), O194.sel [0, 1, 2, 3] (by decide), ?_, ?_, ?_, ?_, ?_, ?_, ?_, ?_, ?_, rfl⟩
   ·
    rw [hm90]; omega
   ·
    omega
   ·
    (split at hr0) <;> split <;> omega
   ·
    (split at hr1) <;> split <;> omega
   ·
    (split at hr2) <;> split <;> omega
   ·
    (split at hr3) <;> split <;> omega
   ·
    (split at hr4) <;> split <;> omega
   ·
    (split at hr5) <;> split <;> omega
   ·
    (split at hr6) <;> split <;> omega
   (split at hr7) <;> split <;> omega
  ·
   refine gR fun K199 hK199 => ?_
   refine V H88 (op_lss rfl (H88.ev rfl) (ev_c _ _)) fun _ H201 => ?_
   clear H88
   have H202 := H201.lit (b := true) (by decide)
   clear H201
   refine gE hK199 ?_
   refine gw_seq fun K203 hK203 => ?_
   refine gw_cond H202 rfl (fun hb204 => ?_) (fun hb204 => ?_)
   rotate_left
   ·
    cases hb204
   refine gS hK203 ?_
   refine gw_seq fun K205 hK205 => ?_
   refine wp_block ?_
   refine gR fun K206 hK206 => ?_
   refine Vm H202 fun _ H208 => ?_
   refine V H208 (op_aidx Tryd.underlying31 gwsiz3 gwagg3 rfl (H208.ev rfl) (H208.ev rfl) (by decide) rfl) fun _ H210 => ?_
   refine Va H210 fun _ H212 => ?_
   refine Va H212 fun _ H214 => ?_
   refine gE hK206 ?_
   clear H202 H208 H210 H212
   refine wp_region_lit ?_
   refine Vm H214 fun _ H216 => ?_
   refine V H216 (op_indexP (q := 3) Tryd.underlying31 gwsiz3 rfl (H216.ev rfl) (H216.ev rfl) (by decide) rfl) fun _ H218 => ?_
   refine Vl H218 gwagg3 (O89.get 0 rfl) fun _ H220 => ?_
   refine Vm H220 fun _ H222 => ?_
   refine V H222 (op_add rfl (H222.ev rfl) (H222.ev rfl) (by have hs_ := sum_part ps i (by omega) (by omega); have hb0_ := tot_b (ps.take i.toNat) 0; have hc0_ := cnt_b (ps.getD i.toNat z46).f1 0; have hb1_ := tot_b (ps.take i.toNat) 1; have hc1_ := cnt_b (ps.getD i.toNat z46).f1 1; have hb2_ := tot_b (ps.take i.toNat) 2; have hc2_ := cnt_b (ps.getD i.toNat z46).f1 2; have hb3_ := tot_b (ps.take i.toNat) 3; have hc3_ := cnt_b (ps.getD i.toNat z46).f1 3; have hb4_ := tot_b (ps.take i.toNat) 4; have hc4_ := cnt_b (ps.getD i.toNat z46).f1 4; have hb5_ := tot_b (ps.take i.toNat) 5; have hc5_ := cnt_b (ps.getD i.toNat z46).f1 5; have hb6_ := tot_b (ps.take i.toNat) 6; have hc6_ := cnt_b (ps.getD i.toNat z46).f1 6; have hb7_ := tot_b (ps.take i.toNat) 7; have hc7_ := cnt_b (ps.getD i.toNat z46).f1 7; (try simp only [Int.reduceLT, reduceIte] at hr0 hr1 hr2 hr3 hr4 hr5 hr6 hr7); omega)) fun _ H224 => ?_
   refine V H224 (op_indexP (q := 3) Tryd.underlying31 gwsiz3 rfl (H224.ev rfl) (H224.ev rfl) (by decide) rfl) fun _ H226 => ?_
   clear H214 H216 H218 H220 H222 H224
   refine gw_set 0 H226 O89 rfl (want_none rfl) rfl (op_store1 gwsiz3 rfl (H226.ev rfl) (H226.ev rfl) rfl (blk_at (O89.get 0 rfl) rfl) (blkf (O89.get 0 rfl))) ?_
   intro _ w229 H228 O230; clear H226 O89
   refine wpList_nil ?_
   refine gw_blk ?_
   refine gw_nx (hK205 _ _ ?_)
   refine wp_region_lit ?_
   refine V H228 (op_add rfl (H228.ev rfl) (ev_c _ _) (by omega)) fun _ H232 => ?_
   refine Vm H232 fun _ H234 => ?_
   clear H228 H232
   refine wpList_nil ?_
   refine gw_nx ⟨_, ?_, 3 + 1, r0, r1, r2, r3 + (cntL ((ps.getD i.toNat z46).f1) 3), r4, r5, r6, r7, (H234.pick (t := 18) rfl (H234.pick (t := 11) rfl (H234.pick (t := 2) rfl (H234.pick (t := 3) rfl (H234.pick (t := 9) rfl (H234.pick (t := 10) rfl (H234.pick (t := 12) rfl (H234.pick (t := 13) rfl (H234.pick (t := 14) rfl (H234.pick (t := 5) rfl (H234.pick (t := 15) rfl (H234.pick (t := 16) rfl (H234.pick (t := 17) rfl H234.nil))))))))))))), O230.sel [0, 1, 2, 3] (by decide), ?_, ?_, ?_, ?_, ?_, ?_, ?_, ?_, ?_, rfl⟩
   ·
    rw [hm90]; omega
   ·
    omega
   ·
    (split at hr0) <;> split <;> omega
   ·
    (split at hr1) <;> split <;> omega
   ·
    (split at hr2) <;> split <;> omega
   ·
    (split at hr3) <;> split <;> omega
   ·
    (split at hr4) <;> split <;> omega
   ·
    (split at hr5) <;> split <;> omega
   ·
    (split at hr6) <;> split <;> omega
   (split at hr7) <;> split <;> omega
  ·
   refine gR fun K235 hK235 => ?_
   refine V H88 (op_lss rfl (H88.ev rfl) (ev_c _ _)) fun _ H237 => ?_
   clear H88
   have H238 := H237.lit (b := true) (by decide)
   clear H237
   refine gE hK235 ?_
   refine gw_seq fun K239 hK239 => ?_
   refine gw_cond H238 rfl (fun hb240 => ?_) (fun hb240 => ?_)
   rotate_left
   ·
    cases hb240
   refine gS hK239 ?_
   refine gw_seq fun K241 hK241 => ?_
   refine wp_block ?_
   refine gR fun K242 hK242 => ?_
   refine Vm H238 fun _ H244 => ?_
   refine V H244 (op_aidx Tryd.underlying31 gwsiz3 gwagg3 rfl (H244.ev rfl) (H244.ev rfl) (by decide) rfl) fun _ H246 => ?_
   refine Va H246 fun _ H248 => ?_
   refine Va H248 fun _ H250 => ?_
   refine gE hK242 ?_
   clear H238 H244 H246 H248
   refine wp_region_lit ?_
   refine Vm H250 fun _ H252 => ?_
   refine V H252 (op_indexP (q := 4) Tryd.underlying31 gwsiz3 rfl (H252.ev rfl) (H252.ev rfl) (by decide) rfl) fun _ H254 => ?_
   refine Vl H254 gwagg3 (O89.get 0 rfl) fun _ H256 => ?_
   refine Vm H256 fun _ H258 => ?_
   refine V H258 (op_add rfl (H258.ev rfl) (H258.ev rfl) (by have hs_ := sum_part ps i (by omega) (by omega); have hb0_ := tot_b (ps.take i.toNat) 0; have hc0_ := cnt_b (ps.getD i.toNat z46).f1 0; have hb1_ := tot_b (ps.take i.toNat) 1; have hc1_ := cnt_b (ps.getD i.toNat z46).f1 1; have hb2_ := tot_b (ps.take i.toNat) 2; have hc2_ := cnt_b (ps.getD i.toNat z46).f1 2; have hb3_ := tot_b (ps.take i.toNat) 3; have hc3_ := cnt_b (ps.getD i.toNat z46).f1 3; have hb4_ := tot_b (ps.take i.toNat) 4; have hc4_ := cnt_b (ps.getD i.toNat z46).f1 4; have hb5_ := tot_b (ps.take i.toNat) 5; have hc5_ := cnt_b (ps.getD i.toNat z46).f1 5; have hb6_ := tot_b (ps.take i.toNat) 6; have hc6_ := cnt_b (ps.getD i.toNat z46).f1 6; have hb7_ := tot_b (ps.take i.toNat) 7; have hc7_ := cnt_b (ps.getD i.toNat z46).f1 7; (try simp only [Int.reduceLT, reduceIte] at hr0 hr1 hr2 hr3 hr4 hr5 hr6 hr7); omega)) fun _ H260 => ?_
   refine V H260 (op_indexP (q := 4) Tryd.underlying31 gwsiz3 rfl (H260.ev rfl) (H260.ev rfl) (by decide) rfl) fun _ H262 => ?_
   clear H250 H252 H254 H256 H258 H260
   refine gw_set 0 H262 O89 rfl (want_none rfl) rfl (op_store1 gwsiz3 rfl (H262.ev rfl) (H262.ev rfl) rfl (blk_at (O89.get 0 rfl) rfl) (blkf (O89.get 0 rfl))) ?_
   intro _ w265 H264 O266; clear H262 O89
   refine wpList_nil ?_
   refine gw_blk ?_
   refine gw_nx (hK241 _ _ ?_)
   refine wp_region_lit ?_
   refine V H264 (op_add rfl (H264.ev rfl) (ev_c _ _) (by omega)) fun _ H268 => ?_
   refine Vm H268 fun _ H270 => ?_
   clear H264 H268
   refine wpList_nil ?_
   refine gw_nx ⟨_, ?_, 4 + 1, r0, r1, r2, r3, r4 + (cntL ((ps.getD i.toNat z46).f1) 4), r5, r6, r7, (H270.pick (t := 18) rfl (H270.pick (t := 11) rfl (H270.pick (t := 2) rfl (H270.pick (t := 3) rfl (H270.pick (t := 9) rfl (H270.pick (t := 10) rfl (H270.pick (t := 12) rfl (H270.pick (t := 13) rfl (H270.pick (t := 14) rfl (H270.pick (t := 5) rfl (H270.pick (t := 15) rfl (H270.pick (t := 16) rfl (H270.pick (t := 17) rfl H270.nil))))))))))))), O266.sel [0, 1, 2, 3] (by decide), ?_, ?_, ?_, ?_, ?_, ?_, ?_, ?_, ?_, rfl⟩
   ·
    rw [hm90]; omega
   ·
    omega
   ·
    (split at hr0) <;> split <;> omega
   ·
    (split at hr1) <;> split <;> omega
   ·
    (split at hr2) <;> split <;> omega
   ·
    (split at hr3) <;> split <;> omega
   ·
    (split at hr4) <;> split <;> omega
   ·
    (split at hr5) <;> split <;> omega
   ·
    (split at hr6) <;> split <;> omega
   (split at hr7) <;> split <;> omega
  ·
   refine gR fun K271 hK271 => ?_
   refine V H88 (op_lss rfl (H88.ev rfl) (ev_c _ _)) fun _ H273 => ?_
   clear H88
   have H274 := H273.lit (b := true) (by decide)
   clear H273
   refine gE hK271 ?_
   refine gw_seq fun K275 hK275 => ?_
   refine gw_cond H274 rfl (fun hb276 => ?_) (fun hb276 => ?_)
   rotate_left
   ·
    cases hb276
   refine gS hK275 ?_
   refine gw_seq fun K277 hK277 => ?_
   refine wp_block ?_
   refine gR fun K278 hK278 => ?_
   refine Vm H274 fun _ H280 => ?_
   refine V H280 (op_aidx Tryd.underlying31 gwsiz3 gwagg3 rfl (H280.ev rfl) (H280.ev rfl) (by decide) rfl) fun _ H282 => ?_
   refine Va H282 fun _ H284 => ?_
   refine Va H284 fun _ H286 => ?_
   refine gE hK278 ?_
   clear H274 H280 H282 H284
   refine wp_region_lit ?_
   refine Vm H286 fun _ H288 => ?_
   refine V H288 (op_indexP (q := 5) Tryd.underlying31 gwsiz3 rfl (H288.ev rfl) (H288.ev rfl) (by decide) rfl) fun _ H290 => ?_
   refine Vl H290 gwagg3 (O89.get 0 rfl) fun _ H292 => ?_
   refine Vm H292 fun _ H294 => ?_
   refine V H294 (op_add rfl (H294.ev rfl) (H294.ev rfl) (by have hs_ := sum_part ps i (by omega) (by omega); have hb0_ := tot_b (ps.take i.toNat) 0; have hc0_ := cnt_b (ps.getD i.toNat z46).f1 0; have hb1_ := tot_b (ps.take i.toNat) 1; have hc1_ := cnt_b (ps.getD i.toNat z46).f1 1; have hb2_ := tot_b (ps.take i.toNat) 2; have hc2_ := cnt_b (ps.getD i.toNat z46).f1 2; have hb3_ := tot_b (ps.take i.toNat) 3; have hc3_ := cnt_b (ps.getD i.toNat z46).f1 3; have hb4_ := tot_b (ps.take i.toNat) 4; have hc4_ := cnt_b (ps.getD i.toNat z46).f1 4; have hb5_ := tot_b (ps.take i.toNat) 5; have hc5_ := cnt_b (ps.getD i.toNat z46).f1 5; have hb6_ := tot_b (ps.take i.toNat) 6; have hc6_ := cnt_b (ps.getD i.toNat z46).f1 6; have hb7_ := tot_b (ps.take i.toNat) 7; have hc7_ := cnt_b (ps.getD i.toNat z46).f1 7; (try simp only [Int.reduceLT, reduceIte] at hr0 hr1 hr2 hr3 hr4 hr5 hr6 hr7); omega)) fun _ H296 => ?_
   refine V H296 (op_indexP (q := 5) Tryd.underlying31 gwsiz3 rfl (H296.ev rfl) (H296.ev rfl) (by decide) rfl) fun _ H298 => ?_
   clear H286 H288 H290 H292 H294 H296
   refine gw_set 0 H298 O89 rfl (want_none rfl) rfl (op_store1 gwsiz3 rfl (H298.ev rfl) (H298.ev rfl) rfl (blk_at (O89.get 0 rfl) rfl) (blkf (O89.get 0 rfl))) ?_
   intro _ w301 H300 O302; clear H298 O89
   refine wpList_nil ?_
   refine gw_blk ?_
   refine gw_nx (hK277 _ _ ?_)
   refine wp_region_lit ?_
   refine V H300 (op_add rfl (H300.ev rfl) (ev_c _ _) (by omega)) fun _ H304 => ?_
   refine Vm H304 fun _ H306 => ?_
   clear H300 H304
   refine wpList_nil ?_
   refine gw_nx ⟨_, ?_, 5 + 1, r0, r1, r2, r3, r4, r5 + (cntL ((ps.getD i.toNat z46).f1) 5), r6, r7, (H306.pick (t := 18) rfl (H306.pick (t := 11) rfl (H306.pick (t := 2) rfl (H306.pick (t := 3) rfl (H306.pick (t := 9) rfl (H306.pick (t := 10) rfl (H306.pick (t := 12) rfl (H306.pick (t := 13) rfl (H306.pick (t := 14) rfl (H306.pick (t := 5) rfl (H306.pick (t := 15) rfl (H306.pick (t := 16) rfl (H306.pick (t := 17) rfl H306.nil))))))))))))), O302.sel [0, 1, 2, 3] (by decide), ?_, ?_, ?_, ?_, ?_, ?_, ?_, ?_, ?_, rfl⟩
   ·
    rw [hm90]; omega
   ·
    omega
   ·
    (split at hr0) <;> split <;> omega
   ·
    (split at hr1) <;> split <;> omega
   ·
    (split at hr2) <;> split <;> omega
   ·
    (split at hr3) <;> split <;> omega
   ·
    (split at hr4) <;> split <;> omega
   ·
    (split at hr5) <;> split <;> omega
   ·
    (split at hr6) <;> split <;> omega
   (split at hr7) <;> split <;> omega
  ·
   refine gR fun K307 hK307 => ?_
   refine V H88 (op_lss rfl (H88.ev rfl) (ev_c _ _)) fun _ H309 => ?_
   clear H88
   have H310 := H309.lit (b := true) (by decide)
   clear H309
   refine gE hK307 ?_
   refine gw_seq fun K311 hK311 => ?_
   refine gw_cond H310 rfl (fun hb312 => ?_) (fun hb312 => ?_)
   rotate_left
   ·
    cases hb312
   refine gS hK311 ?_
   refine gw_seq fun K313 hK313 => ?_
   refine wp_block ?_
   refine gR fun K314 hK314 => ?_
   refine Vm H310 fun _ H316 => ?_
   refine V H316 (op_aidx Tryd.underlying31 gwsiz3 gwagg3 rfl (H316.ev rfl) (H316.ev rfl) (by decide) rfl) fun _ H318 => ?_
   refine Va H318 fun _ H320 => ?_
   refine Va H320 fun _ H322 => ?_
   refine gE hK314 ?_
   clear H310 H316 H318 H320
   refine wp_region_lit ?_
   refine Vm H322 fun _ H324 => ?_
   refine V H324 (op_indexP (q := 6) Tryd.underlying31 gwsiz3 rfl (H324.ev rfl) (H324.ev rfl) (by decide) rfl) fun _ H326 => ?_
   refine Vl H326 gwagg3 (O89.get 0 rfl) fun _ H328 => ?_
   refine Vm H328 fun _ H330 => ?_
   refine V H330 (op_add rfl (H330.ev rfl) (H330.ev rfl) (by have hs_ := sum_part ps i (by omega) (by omega); have hb0_ := tot_b (ps.take i.toNat) 0; have hc0_ := cnt_b (ps.getD i.toNat z46).f1 0; have hb1_ := tot_b (ps.take i.toNat) 1; have hc1_ := cnt_b (ps.getD i.toNat z46).f1 1; have hb2_ := tot_b (ps.take i.toNat) 2; have hc2_ := cnt_b (ps.getD i.toNat z46).f1 2; have hb3_ := tot_b (ps.take i.toNat) 3; have hc3_ := cnt_b (ps.getD i.toNat z46).f1 3; have hb4_ := tot_b (ps.take i.toNat) 4; have hc4_ := cnt_b (ps.getD i.toNat z46).f1 4; have hb5_ := tot_b (ps.take i.toNat) 5; have hc5_ := cnt_b (ps.getD i.toNat z46).f1 5; have hb6_ := tot_b (ps.take i.toNat) 6; have hc6_ := cnt_b (ps.getD i.toNat z46).f1 6; have hb7_ := tot_b (ps.take i.toNat) 7; have hc7_ := cnt_b (ps.getD i.toNat z46).f1 7; (try simp only [Int.reduceLT, reduceIte] at hr0 hr1 hr2 hr3 hr4 hr5 hr6 hr7); omega)) fun _ H332 => ?_
   refine V H332 (op_indexP (q := 6) Tryd.underlying31 gwsiz3 rfl (H332.ev rfl) (H332.ev rfl) (by decide) rfl) fun _ H334 => ?_
   clear H322 H324 H326 H328 H330 H332
   refine gw_set 0 H334 O89 rfl (want_none rfl) rfl (op_store1 gwsiz3 rfl (H334.ev rfl) (H334.ev rfl) rfl (blk_at (O89.get 0 rfl) rfl) (blkf (O89.get 0 rfl))) ?_
   intro _ w337 H336 O338; clear H334 O89
   refine wpList_nil ?_
   refine gw_blk ?_
   refine gw_nx (hK313 _ _ ?_)
   refine wp_region_lit ?_
   refine V H336 (op_add rfl (H336.ev rfl) (ev_c _ _) (by omega)) fun _ H340 => ?_
   refine Vm H340 fun _ H342 => ?_
   clear H336 H340
   refine wpList_nil ?_
   refine gw_nx ⟨_, ?_, 6 + 1, r0, r1, r2, r3, r4, r5, r6 + (cntL ((ps.getD i.toNat z46).f1) 6), r7, (H342.pick (t := 18) rfl (H342.pick (t := 11) rfl (H342.pick (t := 2) rfl (H342.pick (t := 3) rfl (H342.pick (t := 9) rfl (H342.pick (t := 10) rfl (H342.pick (t := 12) rfl (H342.pick (t := 13) rfl (H342.pick (t := 14) rfl (H342.pick (t := 5) rfl (H342.pick (t := 15) rfl (H342.pick (t := 16) rfl (H342.pick (t := 17) rfl H342.nil))))))))))))), O338.sel [0, 1, 2, 3] (by decide), ?_, ?_, ?_, ?_, ?_, ?_, ?_, ?_, ?_, rfl⟩
   ·
    rw [hm90]; omega
   ·
    omega
   ·
    (split at hr0) <;> split <;> omega
   ·
    (split at hr1) <;> split <;> omega
   ·
    (split at hr2) <;> split <;> omega
   ·
    (split at hr3) <;> split <;> omega
   ·
    (split at hr4) <;> split <;> omega
   ·
    (split at hr5) <;> split <;> omega
   ·
    (split at hr6) <;> split <;> omega
   (split at hr7) <;> split <;> omega
  ·
   refine gR fun K343 hK343 => ?_
   refine V H88 (op_lss rfl (H88.ev rfl) (ev_c _ _)) fun _ H345 => ?_
   clear H88
   have H346 := H345.lit (b := true) (by decide)
   clear H345
   refine gE hK343 ?_
   refine gw_seq fun K347 hK347 => ?_
   refine gw_cond H346 rfl (fun hb348 => ?_) (fun hb348 => ?_)
   rotate_left
   ·
    cases hb348
   refine gS hK347 ?_
   refine gw_seq fun K349 hK349 => ?_
   refine wp_block ?_
   refine gR fun K350 hK350 => ?_
   refine Vm H346 fun _ H352 => ?_
   refine V H352 (op_aidx Tryd.underlying31 gwsiz3 gwagg3 rfl (H352.ev rfl) (H352.ev rfl) (by decide) rfl) fun _ H354 => ?_
   refine Va H354 fun _ H356 => ?_
   refine Va H356 fun _ H358 => ?_
   refine gE hK350 ?_
   clear H346 H352 H354 H356
   refine wp_region_lit ?_
   refine Vm H358 fun _ H360 => ?_
   refine V H360 (op_indexP (q := 7) Tryd.underlying31 gwsiz3 rfl (H360.ev rfl) (H360.ev rfl) (by decide) rfl) fun _ H362 => ?_
   refine Vl H362 gwagg3 (O89.get 0 rfl) fun _ H364 => ?_
   refine Vm H364 fun _ H366 => ?_
   refine V H366 (op_add rfl (H366.ev rfl) (H366.ev rfl) (by have hs_ := sum_part ps i (by omega) (by omega); have hb0_ := tot_b (ps.take i.toNat) 0; have hc0_ := cnt_b (ps.getD i.toNat z46).f1 0; have hb1_ := tot_b (ps.take i.toNat) 1; have hc1_ := cnt_b (ps.getD i.toNat z46).f1 1; have hb2_ := tot_b (ps.take i.toNat) 2; have hc2_ := cnt_b (ps.getD i.toNat z46).f1 2; have hb3_ := tot_b (ps.take i.toNat) 3; have hc3_ := cnt_b (ps.getD i.toNat z46).f1 3; have hb4_ := tot_b (ps.take i.toNat) 4; have hc4_ := cnt_b (ps.getD i.toNat z46).f1 4; have hb5_ := tot_b (ps.take i.toNat) 5; have hc5_ := cnt_b (ps.getD i.toNat z46).f1 5; have hb6_ := tot_b (ps.take i.toNat) 6; have hc6_ := cnt_b (ps.getD i.toNat z46).f1 6; have hb7_ := tot_b (ps.take i.toNat) 7; have hc7_ := cnt_b (ps.getD i.toNat z46).f1 7; (try simp only [Int.reduceLT, reduceIte] at hr0 hr1 hr2 hr3 hr4 hr5 hr6 hr7); omega)) fun _ H368 => ?_
   refine V H368 (op_indexP (q := 7) Tryd.underlying31 gwsiz3 rfl (H368.ev rfl) (H368.ev rfl) (by decide) rfl) fun _ H370 => ?_
   clear H358 H360 H362 H364 H366 H368
   refine gw_set 0 H370 O89 rfl (want_none rfl) rfl (op_store1 gwsiz3 rfl (H370.ev rfl) (H370.ev rfl) rfl (blk_at (O89.get 0 rfl) rfl) (blkf (O89.get 0 rfl))) ?_
   intro _ w373 H372 O374; clear H370 O89
   refine wpList_nil ?_
   refine gw_blk ?_
   refine gw_nx (hK349 _ _ ?_)
   refine wp_region_lit ?_
   refine V H372 (op_add rfl (H372.ev rfl) (ev_c _ _) (by omega)) fun _ H376 => ?_
   refine Vm H376 fun _ H378 => ?_
   clear H372 H376
   refine wpList_nil ?_
   refine gw_nx ⟨_, ?_, 7 + 1, r0, r1, r2, r3, r4, r5, r6, r7 + (cntL ((ps.getD i.toNat z46).f1) 7), (H378.pick (t := 18) rfl (H378.pick (t := 11) rfl (H378.pick (t := 2) rfl (H378.pick (t := 3) rfl (H378.pick (t := 9) rfl (H378.pick (t := 10) rfl (H378.pick (t := 12) rfl (H378.pick (t := 13) rfl (H378.pick (t := 14) rfl (H378.pick (t := 5) rfl (H378.pick (t := 15) rfl (H378.pick (t := 16) rfl (H378.pick (t := 17) rfl H378.nil))))))))))))), O374.sel [0, 1, 2, 3] (by decide), ?_, ?_, ?_, ?_, ?_, ?_, ?_, ?_, ?_, rfl⟩
   ·
    rw [hm90]; omega
   ·
    omega
   ·
    (split at hr0) <;> split <;> omega
   ·
    (split at hr1) <;> split <;> omega
   ·
    (split at hr2) <;> split <;> omega
   ·
    (split at hr3) <;> split <;> omega
   ·
    (split at hr4) <;> split <;> omega
   ·
    (split at hr5) <;> split <;> omega
   ·
    (split at hr6) <;> split <;> omega
   (split at hr7) <;> split <;> omega
  refine gR fun K379 hK379 => ?_
  refine V H88 (op_lss rfl (H88.ev rfl) (ev_c _ _)) fun _ H381 => ?_
  clear H88
  have H382 := H381.lit (b := false) (by decide)
  clear H381
  refine gE hK379 ?_
  refine gw_seq fun K383 hK383 => ?_
  refine gw_cond H382 rfl (fun hb384 => ?_) (fun hb384 => ?_)
  ·
   cases hb384
  refine wp_exit ?_
  refine gw_thx ?_
  refine gw_thx ?_
  refine gw_in ?_
  refine gw_blk ?_
  refine gw_nx (hK44 _ _ ?_)
  refine wp_region_lit ?_
  refine V H382 (op_add rfl (H382.ev rfl) (ev_c _ _) (by omega)) fun _ H386 => ?_
  refine Vm H386 fun _ H388 => ?_
  clear H382 H386
  refine wpList_nil ?_
  refine gw_nx ⟨_, ?_, i + 1, r0, r1, r2, r3, r4, r5, r6, r7, (H388.pick (t := 11) rfl (H388.pick (t := 2) rfl (H388.pick (t := 3) rfl (H388.pick (t := 9) rfl (H388.pick (t := 10) rfl H388.nil))))), O89.sel [0, 2, 3] (by decide), ?_, ?_, ?_, ?_, ?_, ?_, ?_, ?_, ?_, rfl⟩
  ·
   rw [hm37]; omega
  ·
   omega
  ·
   rw [tot_succ ps i 0 (by omega) (by omega)]; rw [if_pos (by omega)] at hr0; omega
  ·
   rw [tot_succ ps i 1 (by omega) (by omega)]; rw [if_pos (by omega)] at hr1; omega
  ·
   rw [tot_succ ps i 2 (by omega) (by omega)]; rw [if_pos (by omega)] at hr2; omega
  ·
   rw [tot_succ ps i 3 (by omega) (by omega)]; rw [if_pos (by omega)] at hr3; omega
  ·
   rw [tot_succ ps i 4 (by omega) (by omega)]; rw [if_pos (by omega)] at hr4; omega
  ·
   rw [tot_succ ps i 5 (by omega) (by omega)]; rw [if_pos (by omega)] at hr5; omega
  ·
   rw [tot_succ ps i 6 (by omega) (by omega)]; rw [if_pos (by omega)] at hr6; omega
  rw [tot_succ ps i 7 (by omega) (by omega)]; rw [if_pos (by omega)] at hr7; omega
 have H389 := H40.subst_ (d := 12) (b := false) rfl hb42
 clear H40
 (try simp only [decide_eq_false_iff_not, Int.not_lt] at hb42)
 refine wp_exit ?_
 refine gw_thx ?_
 refine gw_thx ?_
 refine gw_in ?_
 refine gw_nx (hK21 _ _ ?_)
 refine gR fun K390 hK390 => ?_
 refine V H389 (op_loadn gwagg31 gwsiz31 rfl (H389.ev rfl) (O36.get 0 rfl) rfl rfl) fun _ H392 => ?_
 clear H389
 refine gw_setn 1 H392 O36 rfl (want_none rfl) rfl (op_storen gwsiz31 rfl (H392.ev rfl) (H392.ev rfl) (O36.get 1 rfl) rfl (by simp) (by simp [Value.oneCell'])) ?_
 intro _ w395 H394 O396; clear H392 O36
 refine gE hK390 ?_
 refine wp_ret ?_
 refine gw_rets1 H394 rfl (rv_celln H394 rfl gwagg31 gwsiz31 (O396.get 1 rfl) rfl) ?_
 have et : ps.take i.toNat = ps := List.take_of_length_le (by omega)
 rw [et] at hq0 hq1 hq2 hq3 hq4 hq5 hq6 hq7
 exact ⟨by rw [hq0, hq1, hq2, hq3, hq4, hq5, hq6, hq7] <;> rfl, O396.below⟩
end GTotals_
export GTotals_ (totals_calls)
namespace GLines_
theorem lines_calls (su bo : ByteArray) (A0 : Option Addr) (c0 : Nat) (ps : List S46) (w : World) (hr : Kd.C k46 w A0 ps.length ps) (hc : ps.length ≤ c0) (hsm : ps.length + sumL ps ≤ 1000000000) (hL : LaidW w) :
    Calls Tryd.prog 28 #[.agg #[.string su, .string bo, .slice A0 ps.length c0]] w fun e w' => ∃ A c S, e = .returned (.slice A (linesL su bo ps).length c) ∧ Out w w' (fun _ => False) [Chunk.row Kd.string 9 w.heap.size S (.slice A (linesL su bo ps).length c) (linesL su bo ps)] := by
 have hpl := len_C hr
 refine gw_start (N := 79) (vs := [.agg #[.string su, .string bo, .slice A0 ps.length c0]]) Tryd.func28 rfl rfl (by simp) fun a HF HO => ?_
 replace HO : Own w w [] := HO
 refine gR fun K1 hK1 => ?_
 refine gw_new HF HO (want_none rfl) rfl (by decide) (op_box rfl (HF.ev rfl)) ?_
 intro g2 _ w4 H5 O6; clear HF HO
 have O7 : Own w w4 [Bk g2 [.string su, .string bo, .slice A0 ps.length c0] 24] := O6
 clear O6
 refine Vc H5 fun _ H9 => ?_
 refine gE hK1 ?_
 refine gw_seq fun K10 hK10 => ?_
 clear H5
 refine gx_draw (M := [Bk g2 [.string su, .string bo, .slice A0 ps.length c0] 24]) (fun j_ => false) O7 (by kernel_rfl) fun w11 O12 => ?_
 clear O7
 refine gx_take 0 rfl (by kernel_rfl) H9 (by exact O12.sel [0] (by decide)) (want_none rfl) rfl (by decide) (fun wq HO => (op_field (gwfld24_0 _ _) rfl (H9.ev rfl))) ?_
 intro _ H14; clear H9
 refine gx_take 1 rfl (by kernel_rfl) H14 (by exact O12.sel [0] (by decide)) (want_none rfl) rfl (by decide) (fun wq HO => (op_load1 gwagg9 rfl (H14.ev rfl) (blk_at (HO.get 0 rfl) rfl))) ?_
 intro _ H16; clear H14
 refine gx_take 4 rfl (by kernel_rfl) H16 (by exact O12.sel [0] (by decide)) (want_none rfl) rfl (by decide) (fun wq HO => (op_field (gwfld24_1 _ _) rfl (H16.ev rfl))) ?_
 intro _ H18; clear H16
 refine gx_take 5 rfl (by kernel_rfl) H18 (by exact O12.sel [0] (by decide)) (want_none rfl) rfl (by decide) (fun wq HO => (op_load1 gwagg9 rfl (H18.ev rfl) (blk_at (HO.get 0 rfl) rfl))) ?_
 intro _ H20; clear H18
 refine gx_step 2 rfl (by kernel_rfl) ?_
 refine Wk H20 Tryd.func42 rfl (ar_cons (H20.ev rfl) ar_nil) (nw_calls su _) ?_
 rintro e21 w22 ⟨rfl, hb23⟩
 refine ⟨_, rfl, fun _ H25 => ?_⟩
 have O26 := O12.after hb23
 clear H20 O12 hb23
 refine gx_on (i := 2) (B := (fun j_ => false)) (fun _ => (by exact O26.sel [0] (by decide))) ?_
 refine gx_take 3 rfl (by kernel_rfl) H25 (by exact O26.sel [0] (by decide)) (want_none rfl) rfl (by decide) (fun wq HO => (op_cats rfl (ev_c _ _) (H25.ev rfl) (by (try simp only [size_cat]); have h0_ := nw_size su; have h1_ : (⟨#[84, 101, 115, 116, 32, 114, 117, 110, 32, 111, 102, 32]⟩ : ByteArray).size = 12 := rfl; omega))) ?_
 intro _ H29; clear H25
 refine gx_step 6 rfl (by kernel_rfl) ?_
 refine Wk H29 Tryd.func42 rfl (ar_cons (H29.ev rfl) ar_nil) (nw_calls bo _) ?_
 rintro e30 w31 ⟨rfl, hb32⟩
 refine ⟨_, rfl, fun _ H34 => ?_⟩
 have O35 := O26.after hb32
 clear H29 O26 hb32
 refine gx_on (i := 6) (B := (fun j_ => false)) (fun _ => (by exact O35.sel [0] (by decide))) ?_
 refine gx_take 7 rfl (by kernel_rfl) H34 (by exact O35.sel [0] (by decide)) (want_none rfl) rfl (by decide) (fun wq HO => (op_cats rfl (ev_c _ _) (H34.ev rfl) (by (try simp only [size_cat]); have h0_ := nw_size bo; have h1_ : (⟨#[66, 111, 97, 114, 100, 32]⟩ : ByteArray).size = 6 := rfl; omega))) ?_
 intro _ H38; clear H34
 refine gx_step 8 rfl (by kernel_rfl) ?_
 refine gw_lit (enc := Value.string) (fun _ => rfl) (xs := [((⟨#[84, 101, 115, 116, 32, 114, 117, 110, 32, 111, 102, 32]⟩ : ByteArray) ++ (nwB su)), ((⟨#[66, 111, 97, 114, 100, 32]⟩ : ByteArray) ++ (nwB bo))]) (e := 9) H38 O35 (want_none rfl) rfl (by decide) (op_bslice (by kernel_rfl) rfl (pt_cons (H38.ev rfl) (pt_cons (H38.ev rfl) pt_nil))) (by simp) ?_
 intro A39 S40 _ w42 H43 O44; clear H38 O35
 have O45 : Own w w42 [Chunk.row Kd.string 9 w.heap.size S40 (.slice A39 (([((⟨#[84, 101, 115, 116, 32, 114, 117, 110, 32, 111, 102, 32]⟩ : ByteArray) ++ (nwB su)), ((⟨#[66, 111, 97, 114, 100, 32]⟩ : ByteArray) ++ (nwB bo))]).length) (([((⟨#[84, 101, 115, 116, 32, 114, 117, 110, 32, 111, 102, 32]⟩ : ByteArray) ++ (nwB su)), ((⟨#[66, 111, 97, 114, 100, 32]⟩ : ByteArray) ++ (nwB bo))]).length)) ([((⟨#[84, 101, 115, 116, 32, 114, 117, 110, 32, 111, 102, 32]⟩ : ByteArray) ++ (nwB su)), ((⟨#[66, 111, 97, 114, 100, 32]⟩ : ByteArray) ++ (nwB bo))]), Bk g2 [.string su, .string bo, .slice A0 ps.length c0] 24] := O44
 clear O44
 refine gx_on (i := 8) (B := (fun j_ => false)) (fun _ => (by exact O45.sel [1] (by decide))) ?_
 refine gx_take 9 rfl (by kernel_rfl) H43 (by exact O45.sel [1] (by decide)) (want_none rfl) rfl (by decide) (fun wq HO => (op_assign rfl (H43.ev rfl))) ?_
 intro _ H47; clear H43
 refine gx_done (by kernel_rfl) ?_
 refine gw_nx (hK10 _ _ ?_)
 refine gw_seq fun K48 hK48 => ?_
 refine gR fun K49 hK49 => ?_
 refine Vf H47 (gwfld24_2 _ _) fun _ H51 => ?_
 refine Vl H51 gwagg22 (O45.get 1 rfl) fun _ H53 => ?_
 refine V H53 (op_len Tryd.underlying22 rfl (H53.ev rfl)) fun _ H55 => ?_
 refine V H55 (op_move rfl (ev_c _ _)) fun _ H57 => ?_
 refine gE hK49 ?_
 clear H47 H51 H53 H55
 refine wp_block ?_
 refine gw_loop (fun m_ a_ w_ => ∃ (i : Int) (Li : List ByteArray) (Ai : Option Addr) (ci : Nat) (Si : Nat → Prop), Fr 79 a_ [(22, J i), (3, .slice Ai Li.length ci), (1, .pointer (some ⟨g2, 0, none⟩)), (2, .slice none 0 0), (20, .slice A0 ps.length c0), (21, J (ps.length : Int))] ∧ Own w w_ [Chunk.row Kd.string 9 w.heap.size Si (.slice Ai Li.length ci) Li, Bk g2 [.string su, .string bo, .slice A0 ps.length c0] 24] ∧ (0 ≤ i ∧ i ≤ ps.length) ∧ (Li = (bodyL su bo (ps.take i.toNat))) ∧ m_ = (ps.length - i.toNat)) ((ps.length - (0 : Int).toNat)) ?_ ?_
 ·
  refine ⟨0, [((⟨#[84, 101, 115, 116, 32, 114, 117, 110, 32, 111, 102, 32]⟩ : ByteArray) ++ (nwB su)), ((⟨#[66, 111, 97, 114, 100, 32]⟩ : ByteArray) ++ (nwB bo))], A39, ([((⟨#[84, 101, 115, 116, 32, 114, 117, 110, 32, 111, 102, 32]⟩ : ByteArray) ++ (nwB su)), ((⟨#[66, 111, 97, 114, 100, 32]⟩ : ByteArray) ++ (nwB bo))]).length, S40, (H57.pick (t := 22) rfl (H57.pick (t := 3) rfl (H57.pick (t := 1) rfl (H57.pick (t := 2) rfl (H57.pick (t := 20) rfl (H57.pick (t := 21) rfl H57.nil)))))), O45.sel [0, 1] (by decide), ?_, ?_, rfl⟩
  ·
   omega
  simp [bodyL, headL]
 rintro m59 _ w61 ⟨i, Li, Ai, ci, Si, H62, O63, hi, hLi, hm64⟩
 refine gR fun K65 hK65 => ?_
 refine V H62 (op_lss rfl (H62.ev rfl) (H62.ev rfl)) fun _ H67 => ?_
 refine gE hK65 ?_
 refine gw_seq fun K68 hK68 => ?_
 clear H62
 refine gw_cond H67 rfl (fun hb69 => ?_) (fun hb69 => ?_)
 ·
  have H70 := H67.subst_ (d := 23) (b := true) rfl hb69
  clear H67
  (try simp only [decide_eq_true_eq] at hb69)
  refine gS hK68 ?_
  refine gw_seq fun K71 hK71 => ?_
  refine wp_block ?_
  refine gR fun K72 hK72 => ?_
  obtain ⟨ad73, cs76, hA74, hl77, hK78, hc75⟩ := Kd.C_get hr z46 i (by omega) (by omega)
  obtain ⟨A79, c80, rfl, hl81, hC82⟩ := k46_open hK78
  clear hl77
  refine V H70 (op_index Tryd.underlying22 gwsiz46 rfl (H70.ev rfl) (H70.ev rfl) hA74 (⟨by omega, by omega⟩)) fun _ H84 => ?_
  refine V H84 (op_loadc gwagg46 gwsiz46 rfl (H84.ev rfl) rfl (cells0 O63 hc75)) fun _ H86 => ?_
  clear H70 H84
  refine gw_new H86 O63 (want_none rfl) rfl (by decide) (op_alloc gwzer46 rfl) ?_
  intro g87 _ w89 H90 O91; clear H86 O63
  have O92 : Own w w89 [Bk g87 [.string (⟨#[]⟩ : ByteArray), .slice none 0 0] 46, Chunk.row Kd.string 9 w.heap.size Si (.slice Ai Li.length ci) Li, Bk g2 [.string su, .string bo, .slice A0 ps.length c0] 24] := O91
  clear O91
  refine gw_setn 0 H90 O92 rfl (want_none rfl) rfl (op_storen gwsiz46 rfl (H90.ev rfl) (H90.ev rfl) (O92.get 0 rfl) rfl (by simp) (by simp [Value.oneCell'])) ?_
  intro _ w95 H94 O96; clear H90 O92
  refine gE hK72 ?_
  refine gR fun K97 hK97 => ?_
  refine Vm H94 fun _ H99 => ?_
  refine Vf H99 (gwfld46_0 _ _) fun _ H101 => ?_
  refine Vl H101 gwagg9 (O96.get 0 rfl) fun _ H103 => ?_
  clear H94 H99 H101
  refine Wk H103 Tryd.func42 rfl (ar_cons (H103.ev rfl) ar_nil) (nw_calls ((ps.getD i.toNat z46).f0) _) ?_
  rintro e104 w105 ⟨rfl, hb106⟩
  refine ⟨_, rfl, fun _ H108 => ?_⟩
  have O109 := O96.after hb106
  clear H103 O96 hb106
  refine V H108 (op_cats rfl (ev_c _ _) (H108.ev rfl) (by (try simp only [size_cat]); have h0_ := nw_size ((ps.getD i.toNat z46).f0); have h1_ : (⟨#[103, 114, 111, 117, 112, 32]⟩ : ByteArray).size = 6 := rfl; omega)) fun _ H112 => ?_
  clear H108
  refine gw_lit (enc := Value.string) (fun _ => rfl) (xs := [((⟨#[103, 114, 111, 117, 112, 32]⟩ : ByteArray) ++ (nwB ((ps.getD i.toNat z46).f0)))]) (e := 9) H112 O109 (want_none rfl) rfl (by decide) (op_bslice (by kernel_rfl) rfl (pt_cons (H112.ev rfl) pt_nil)) (by simp) ?_
  intro A113 S114 _ w116 H117 O118; clear H112 O109
  have O119 : Own w w116 [Chunk.row Kd.string 9 w.heap.size S114 (.slice A113 (([((⟨#[103, 114, 111, 117, 112, 32]⟩ : ByteArray) ++ (nwB ((ps.getD i.toNat z46).f0)))]).length) (([((⟨#[103, 114, 111, 117, 112, 32]⟩ : ByteArray) ++ (nwB ((ps.getD i.toNat z46).f0)))]).length)) ([((⟨#[103, 114, 111, 117, 112, 32]⟩ : ByteArray) ++ (nwB ((ps.getD i.toNat z46).f0)))]), Bk g87 [.string ((ps.getD i.toNat z46).f0), .slice A79 ((ps.getD i.toNat z46).f1.length) c80] 46, Chunk.row Kd.string 9 w.heap.size Si (.slice Ai Li.length ci) Li, Bk g2 [.string su, .string bo, .slice A0 ps.length c0] 24] := O118
  clear O118
  refine gw_append Kd.string 2 H117 O119 (want_none rfl) rfl (by decide) rfl Tryd.underlying58 gwinfo9 rfl (by decide) (by decide) rfl (H117.ev rfl) (H117.ev rfl) (Kd.R_reads' (O119.get 0 rfl)).2.2 (fun _ _ h => h) O119.below.size (by rw [hLi]; have hb_ := body_len su bo (ps.take i.toNat); have hs_ := sum_le ps i.toNat; rw [List.length_take] at hb_; simp; omega) ?_
  intro A120 c121 S122 _ w124 H125 O126; clear H117 O119
  have O127 : Own w w124 [Chunk.row Kd.string 9 w.heap.size S114 (.slice A113 (([((⟨#[103, 114, 111, 117, 112, 32]⟩ : ByteArray) ++ (nwB ((ps.getD i.toNat z46).f0)))]).length) (([((⟨#[103, 114, 111, 117, 112, 32]⟩ : ByteArray) ++ (nwB ((ps.getD i.toNat z46).f0)))]).length)) ([((⟨#[103, 114, 111, 117, 112, 32]⟩ : ByteArray) ++ (nwB ((ps.getD i.toNat z46).f0)))]), Bk g87 [.string ((ps.getD i.toNat z46).f0), .slice A79 ((ps.getD i.toNat z46).f1.length) c80] 46, Chunk.row Kd.string 9 w.heap.size S122 (.slice A120 ((Li ++ [((⟨#[103, 114, 111, 117, 112, 32]⟩ : ByteArray) ++ (nwB ((ps.getD i.toNat z46).f0)))]).length) c121) (Li ++ [((⟨#[103, 114, 111, 117, 112, 32]⟩ : ByteArray) ++ (nwB ((ps.getD i.toNat z46).f0)))]), Bk g2 [.string su, .string bo, .slice A0 ps.length c0] 24] := O126
  clear O126
  refine Va H125 fun _ H129 => ?_
  refine gE hK97 ?_
  refine gR fun K130 hK130 => ?_
  refine Vf H129 (gwfld46_1 _ _) fun _ H132 => ?_
  refine Vl H132 gwagg44 (O127.get 1 rfl) fun _ H134 => ?_
  refine V H134 (op_len Tryd.underlying44 rfl (H134.ev rfl)) fun _ H136 => ?_
  refine V H136 (op_move rfl (ev_c _ _)) fun _ H138 => ?_
  refine gE hK130 ?_
  clear H125 H129 H132 H134 H136
  refine wp_block ?_
  refine gw_loop (fun m_ a_ w_ => ∃ (j : Int) (Lj : List ByteArray) (Aj : Option Addr) (cj : Nat) (Sj : Nat → Prop), Fr 79 a_ [(36, J j), (3, .slice Aj Lj.length cj), (22, J i), (1, .pointer (some ⟨g2, 0, none⟩)), (2, .slice none 0 0), (20, .slice A0 ps.length c0), (21, J (ps.length : Int)), (23, .bool true), (24, .pointer (some (ad73.add (i.toNat * 2)))), (25, .agg #[.string ((ps.getD i.toNat z46).f0), .slice A79 ((ps.getD i.toNat z46).f1.length) c80]), (5, .pointer (some ⟨g87, 0, none⟩)), (26, .slice Ai Li.length ci), (27, .pointer (some ⟨g87, 0, none⟩)), (28, .string ((ps.getD i.toNat z46).f0)), (29, .string (nwB ((ps.getD i.toNat z46).f0))), (30, .string ((⟨#[103, 114, 111, 117, 112, 32]⟩ : ByteArray) ++ (nwB ((ps.getD i.toNat z46).f0)))), (31, .slice A113 (([((⟨#[103, 114, 111, 117, 112, 32]⟩ : ByteArray) ++ (nwB ((ps.getD i.toNat z46).f0)))]).length) (([((⟨#[103, 114, 111, 117, 112, 32]⟩ : ByteArray) ++ (nwB ((ps.getD i.toNat z46).f0)))]).length)), (32, .slice A120 ((Li ++ [((⟨#[103, 114, 111, 117, 112, 32]⟩ : ByteArray) ++ (nwB ((ps.getD i.toNat z46).f0)))]).length) c121), (33, .pointer (some ⟨g87, 1, none⟩)), (34, .slice A79 ((ps.getD i.toNat z46).f1.length) c80), (35, J (((ps.getD i.toNat z46).f1.length) : Int))] ∧ Own w w_ [Chunk.row Kd.string 9 w.heap.size Sj (.slice Aj Lj.length cj) Lj, Chunk.row Kd.string 9 w.heap.size S114 (.slice A113 (([((⟨#[103, 114, 111, 117, 112, 32]⟩ : ByteArray) ++ (nwB ((ps.getD i.toNat z46).f0)))]).length) (([((⟨#[103, 114, 111, 117, 112, 32]⟩ : ByteArray) ++ (nwB ((ps.getD i.toNat z46).f0)))]).length)) ([((⟨#[103, 114, 111, 117, 112, 32]⟩ : ByteArray) ++ (nwB ((ps.getD i.toNat z46).f0)))]), Bk g87 [.string ((ps.getD i.toNat z46).f0), .slice A79 ((ps.getD i.toNat z46).f1.length) c80] 46, Bk g2 [.string su, .string bo, .slice A0 ps.length c0] 24] ∧ (0 ≤ j ∧ j ≤ (ps.getD i.toNat z46).f1.length ∧ (ps.getD i.toNat z46).f1.length ≤ 1000000000) ∧ (Lj = Li ++ [(⟨#[103, 114, 111, 117, 112, 32]⟩ : ByteArray) ++ nwB (ps.getD i.toNat z46).f0] ++ ((ps.getD i.toNat z46).f1.take j.toNat).map resL) ∧ m_ = ((ps.getD i.toNat z46).f1.length - j.toNat)) (((ps.getD i.toNat z46).f1.length - (0 : Int).toNat)) ?_ ?_
  ·
   refine ⟨0, (Li ++ [((⟨#[103, 114, 111, 117, 112, 32]⟩ : ByteArray) ++ (nwB ((ps.getD i.toNat z46).f0)))]), A120, c121, S122, (H138.pick (t := 36) rfl (H138.pick (t := 3) rfl (H138.pick (t := 22) rfl (H138.pick (t := 1) rfl (H138.pick (t := 2) rfl (H138.pick (t := 20) rfl (H138.pick (t := 21) rfl (H138.pick (t := 23) rfl (H138.pick (t := 24) rfl (H138.pick (t := 25) rfl (H138.pick (t := 5) rfl (H138.pick (t := 26) rfl (H138.pick (t := 27) rfl (H138.pick (t := 28) rfl (H138.pick (t := 29) rfl (H138.pick (t := 30) rfl (H138.pick (t := 31) rfl (H138.pick (t := 32) rfl (H138.pick (t := 33) rfl (H138.pick (t := 34) rfl (H138.pick (t := 35) rfl H138.nil))))))))))))))))))))), O127.sel [2, 0, 1, 3] (by decide), ?_, ?_, rfl⟩
   ·
    have hp_ := sum_part ps i (by omega) (by omega); omega
   simp
  rintro m140 _ w142 ⟨j, Lj, Aj, cj, Sj, H143, O144, hj, hLj, hm145⟩
  refine gR fun K146 hK146 => ?_
  refine V H143 (op_lss rfl (H143.ev rfl) (H143.ev rfl)) fun _ H148 => ?_
  refine gE hK146 ?_
  refine gw_seq fun K149 hK149 => ?_
  clear H143
  refine gw_cond H148 rfl (fun hb150 => ?_) (fun hb150 => ?_)
  ·
   have H151 := H148.subst_ (d := 37) (b := true) rfl hb150
   clear H148
   (try simp only [decide_eq_true_eq] at hb150)
   refine gS hK149 ?_
   refine gw_seq fun K152 hK152 => ?_
   refine wp_block ?_
   refine gR fun K153 hK153 => ?_
   obtain ⟨ad154, cs157, hA155, hl158, hK159, hc156⟩ := Kd.C_get hC82 z49 j (by omega) (by omega)
   obtain rfl := k49_open hK159
   clear hl158
   refine V H151 (op_index Tryd.underlying44 gwsiz49 rfl (H151.ev rfl) (H151.ev rfl) hA155 (⟨by omega, by omega⟩)) fun _ H161 => ?_
   refine V H161 (op_loadc gwagg49 gwsiz49 rfl (H161.ev rfl) rfl (cells0 O144 hc156)) fun _ H163 => ?_
   clear H151 H161
   refine gw_new H163 O144 (want_none rfl) rfl (by decide) (op_alloc gwzer49 rfl) ?_
   intro g164 _ w166 H167 O168; clear H163 O144
   have O169 : Own w w166 [Bk g164 [.string (⟨#[]⟩ : ByteArray), J 0] 49, Chunk.row Kd.string 9 w.heap.size Sj (.slice Aj Lj.length cj) Lj, Chunk.row Kd.string 9 w.heap.size S114 (.slice A113 (([((⟨#[103, 114, 111, 117, 112, 32]⟩ : ByteArray) ++ (nwB ((ps.getD i.toNat z46).f0)))]).length) (([((⟨#[103, 114, 111, 117, 112, 32]⟩ : ByteArray) ++ (nwB ((ps.getD i.toNat z46).f0)))]).length)) ([((⟨#[103, 114, 111, 117, 112, 32]⟩ : ByteArray) ++ (nwB ((ps.getD i.toNat z46).f0)))]), Bk g87 [.string ((ps.getD i.toNat z46).f0), .slice A79 ((ps.getD i.toNat z46).f1.length) c80] 46, Bk g2 [.string su, .string bo, .slice A0 ps.length c0] 24] := O168
   clear O168
   refine gw_setn 0 H167 O169 rfl (want_none rfl) rfl (op_storen gwsiz49 rfl (H167.ev rfl) (H167.ev rfl) (O169.get 0 rfl) rfl (by simp) (by simp [Value.oneCell'])) ?_
   intro _ w172 H171 O173; clear H167 O169
   refine gE hK153 ?_
   refine gx_draw (M := [Bk g164 [.string ((((ps.getD i.toNat z46).f1).getD j.toNat z49).f0), J ((((ps.getD i.toNat z46).f1).getD j.toNat z49).f1)] 49, Chunk.row Kd.string 9 w.heap.size S114 (.slice A113 (([((⟨#[103, 114, 111, 117, 112, 32]⟩ : ByteArray) ++ (nwB ((ps.getD i.toNat z46).f0)))]).length) (([((⟨#[103, 114, 111, 117, 112, 32]⟩ : ByteArray) ++ (nwB ((ps.getD i.toNat z46).f0)))]).length)) ([((⟨#[103, 114, 111, 117, 112, 32]⟩ : ByteArray) ++ (nwB ((ps.getD i.toNat z46).f0)))]), Bk g87 [.string ((ps.getD i.toNat z46).f0), .slice A79 ((ps.getD i.toNat z46).f1.length) c80] 46, Bk g2 [.string su, .string bo, .slice A0 ps.length c0] 24]) (fun j_ => false) O173 (by kernel_rfl) fun w174 O175 => ?_
   clear O173
   refine gx_take 0 rfl (by kernel_rfl) H171 (by exact O175.sel [0, 2, 3, 4] (by decide)) (want_none rfl) rfl (by decide) (fun wq HO => (op_move rfl (H171.ev rfl))) ?_
   intro _ H177; clear H171
   refine gx_take 1 rfl (by kernel_rfl) H177 (by exact O175.sel [0, 2, 3, 4] (by decide)) (want_none rfl) rfl (by decide) (fun wq HO => (op_field (gwfld49_1 _ _) rfl (H177.ev rfl))) ?_
   intro _ H179; clear H177
   refine gx_take 2 rfl (by kernel_rfl) H179 (by exact O175.sel [0, 2, 3, 4] (by decide)) (want_none rfl) rfl (by decide) (fun wq HO => (op_load1 gwagg3 rfl (H179.ev rfl) (blk_at (HO.get 0 rfl) rfl))) ?_
   intro _ H181; clear H179
   refine gx_take 5 rfl (by kernel_rfl) H181 (by exact O175.sel [0, 2, 3, 4] (by decide)) (want_none rfl) rfl (by decide) (fun wq HO => (op_field (gwfld49_0 _ _) rfl (H181.ev rfl))) ?_
   intro _ H183; clear H181
   refine gx_take 6 rfl (by kernel_rfl) H183 (by exact O175.sel [0, 2, 3, 4] (by decide)) (want_none rfl) rfl (by decide) (fun wq HO => (op_load1 gwagg9 rfl (H183.ev rfl) (blk_at (HO.get 0 rfl) rfl))) ?_
   intro _ H185; clear H183
   refine gx_step 3 rfl (by kernel_rfl) ?_
   refine Wk H185 Tryd.func25 rfl (ar_cons (H185.ev rfl) ar_nil) (vt_calls ((((ps.getD i.toNat z46).f1).getD j.toNat z49).f1) _) ?_
   rintro e186 w187 ⟨rfl, hb188⟩
   refine ⟨_, rfl, fun _ H190 => ?_⟩
   have O191 := O175.after hb188
   clear H185 O175 hb188
   refine gx_on (i := 3) (B := (fun j_ => false)) (fun _ => (by exact O191.sel [0, 2, 3, 4] (by decide))) ?_
   refine gx_take 4 rfl (by kernel_rfl) H190 (by exact O191.sel [0, 2, 3, 4] (by decide)) (want_none rfl) rfl (by decide) (fun wq HO => (op_cats rfl (H190.ev rfl) (ev_c _ _) (by (try simp only [size_cat]); have h0_ := vt_size ((((ps.getD i.toNat z46).f1).getD j.toNat z49).f1); have h1_ : (⟨#[58, 32]⟩ : ByteArray).size = 2 := rfl; omega))) ?_
   intro _ H194; clear H190
   refine gx_step 7 rfl (by kernel_rfl) ?_
   refine Wk H194 Tryd.func42 rfl (ar_cons (H194.ev rfl) ar_nil) (nw_calls ((((ps.getD i.toNat z46).f1).getD j.toNat z49).f0) _) ?_
   rintro e195 w196 ⟨rfl, hb197⟩
   refine ⟨_, rfl, fun _ H199 => ?_⟩
   have O200 := O191.after hb197
   clear H194 O191 hb197
   refine gx_on (i := 7) (B := (fun j_ => false)) (fun _ => (by exact O200.sel [0, 2, 3, 4] (by decide))) ?_
   refine gx_take 8 rfl (by kernel_rfl) H199 (by exact O200.sel [0, 2, 3, 4] (by decide)) (want_none rfl) rfl (by decide) (fun wq HO => (op_cats rfl (H199.ev rfl) (H199.ev rfl) (by (try simp only [size_cat]); have h0_ := nw_size ((((ps.getD i.toNat z46).f1).getD j.toNat z49).f0); have h1_ := vt_size ((((ps.getD i.toNat z46).f1).getD j.toNat z49).f1); have h2_ : (⟨#[58, 32]⟩ : ByteArray).size = 2 := rfl; omega))) ?_
   intro _ H203; clear H199
   refine gx_step 9 rfl (by kernel_rfl) ?_
   refine gw_lit (enc := Value.string) (fun _ => rfl) (xs := [(((vtB ((((ps.getD i.toNat z46).f1).getD j.toNat z49).f1)) ++ (⟨#[58, 32]⟩ : ByteArray)) ++ (nwB ((((ps.getD i.toNat z46).f1).getD j.toNat z49).f0)))]) (e := 9) H203 O200 (want_none rfl) rfl (by decide) (op_bslice (by kernel_rfl) rfl (pt_cons (H203.ev rfl) pt_nil)) (by simp) ?_
   intro A204 S205 _ w207 H208 O209; clear H203 O200
   have O210 : Own w w207 [Chunk.row Kd.string 9 w.heap.size S205 (.slice A204 (([(((vtB ((((ps.getD i.toNat z46).f1).getD j.toNat z49).f1)) ++ (⟨#[58, 32]⟩ : ByteArray)) ++ (nwB ((((ps.getD i.toNat z46).f1).getD j.toNat z49).f0)))]).length) (([(((vtB ((((ps.getD i.toNat z46).f1).getD j.toNat z49).f1)) ++ (⟨#[58, 32]⟩ : ByteArray)) ++ (nwB ((((ps.getD i.toNat z46).f1).getD j.toNat z49).f0)))]).length)) ([(((vtB ((((ps.getD i.toNat z46).f1).getD j.toNat z49).f1)) ++ (⟨#[58, 32]⟩ : ByteArray)) ++ (nwB ((((ps.getD i.toNat z46).f1).getD j.toNat z49).f0)))]), Bk g164 [.string ((((ps.getD i.toNat z46).f1).getD j.toNat z49).f0), J ((((ps.getD i.toNat z46).f1).getD j.toNat z49).f1)] 49, Chunk.row Kd.string 9 w.heap.size Sj (.slice Aj Lj.length cj) Lj, Chunk.row Kd.string 9 w.heap.size S114 (.slice A113 (([((⟨#[103, 114, 111, 117, 112, 32]⟩ : ByteArray) ++ (nwB ((ps.getD i.toNat z46).f0)))]).length) (([((⟨#[103, 114, 111, 117, 112, 32]⟩ : ByteArray) ++ (nwB ((ps.getD i.toNat z46).f0)))]).length)) ([((⟨#[103, 114, 111, 117, 112, 32]⟩ : ByteArray) ++ (nwB ((ps.getD i.toNat z46).f0)))]), Bk g87 [.string ((ps.getD i.toNat z46).f0), .slice A79 ((ps.getD i.toNat z46).f1.length) c80] 46, Bk g2 [.string su, .string bo, .slice A0 ps.length c0] 24] := O209
   clear O209
   refine gx_on (i := 9) (B := (fun j_ => false)) (fun _ => (by exact O210.sel [1, 3, 4, 5] (by decide))) ?_
   refine gx_step 10 rfl (by kernel_rfl) ?_
   refine gw_append Kd.string 2 H208 O210 (want_none rfl) rfl (by decide) rfl Tryd.underlying58 gwinfo9 rfl (by decide) (by decide) rfl (H208.ev rfl) (H208.ev rfl) (Kd.R_reads' (O210.get 0 rfl)).2.2 (fun _ _ h => h) O210.below.size (by rw [hLj, hLi]; have hb_ := body_len su bo (ps.take i.toNat); have hs_ := sum_le ps i.toNat; rw [List.length_take] at hb_; have hp_ := sum_part ps i (by omega) (by omega); simp; omega) ?_
   intro A211 c212 S213 _ w215 H216 O217; clear H208 O210
   have O218 : Own w w215 [Chunk.row Kd.string 9 w.heap.size S205 (.slice A204 (([(((vtB ((((ps.getD i.toNat z46).f1).getD j.toNat z49).f1)) ++ (⟨#[58, 32]⟩ : ByteArray)) ++ (nwB ((((ps.getD i.toNat z46).f1).getD j.toNat z49).f0)))]).length) (([(((vtB ((((ps.getD i.toNat z46).f1).getD j.toNat z49).f1)) ++ (⟨#[58, 32]⟩ : ByteArray)) ++ (nwB ((((ps.getD i.toNat z46).f1).getD j.toNat z49).f0)))]).length)) ([(((vtB ((((ps.getD i.toNat z46).f1).getD j.toNat z49).f1)) ++ (⟨#[58, 32]⟩ : ByteArray)) ++ (nwB ((((ps.getD i.toNat z46).f1).getD j.toNat z49).f0)))]), Bk g164 [.string ((((ps.getD i.toNat z46).f1).getD j.toNat z49).f0), J ((((ps.getD i.toNat z46).f1).getD j.toNat z49).f1)] 49, Chunk.row Kd.string 9 w.heap.size S213 (.slice A211 ((Lj ++ [(((vtB ((((ps.getD i.toNat z46).f1).getD j.toNat z49).f1)) ++ (⟨#[58, 32]⟩ : ByteArray)) ++ (nwB ((((ps.getD i.toNat z46).f1).getD j.toNat z49).f0)))]).length) c212) (Lj ++ [(((vtB ((((ps.getD i.toNat z46).f1).getD j.toNat z49).f1)) ++ (⟨#[58, 32]⟩ : ByteArray)) ++ (nwB ((((ps.getD i.toNat z46).f1).getD j.toNat z49).f0)))]), Chunk.row Kd.string 9 w.heap.size S114 (.slice A113 (([((⟨#[103, 114, 111, 117, 112, 32]⟩ : ByteArray) ++ (nwB ((ps.getD i.toNat z46).f0)))]).length) (([((⟨#[103, 114, 111, 117, 112, 32]⟩ : ByteArray) ++ (nwB ((ps.getD i.toNat z46).f0)))]).length)) ([((⟨#[103, 114, 111, 117, 112, 32]⟩ : ByteArray) ++ (nwB ((ps.getD i.toNat z46).f0)))]), Bk g87 [.string ((ps.getD i.toNat z46).f0), .slice A79 ((ps.getD i.toNat z46).f1.length) c80] 46, Bk g2 [.string su, .string bo, .slice A0 ps.length c0] 24] := O217
   clear O217
   refine gx_on (i := 10) (B := (fun j_ => false)) (fun _ => (by exact O218.sel [1, 3, 4, 5] (by decide))) ?_
   refine gx_take 11 rfl (by kernel_rfl) H216 (by exact O218.sel [1, 3, 4, 5] (by decide)) (want_none rfl) rfl (by decide) (fun wq HO => (op_assign rfl (H216.ev rfl))) ?_
   intro _ H220; clear H216
   refine gx_done (by kernel_rfl) ?_
   refine gw_blk ?_
   refine gw_nx (hK152 _ _ ?_)
   refine wp_region_lit ?_
   refine V H220 (op_add rfl (H220.ev rfl) (ev_c _ _) (by omega)) fun _ H222 => ?_
   refine Vm H222 fun _ H224 => ?_
   clear H220 H222
   refine wpList_nil ?_
   refine gw_nx ⟨_, ?_, j + 1, (Lj ++ [(((vtB ((((ps.getD i.toNat z46).f1).getD j.toNat z49).f1)) ++ (⟨#[58, 32]⟩ : ByteArray)) ++ (nwB ((((ps.getD i.toNat z46).f1).getD j.toNat z49).f0)))]), A211, c212, S213, (H224.pick (t := 36) rfl (H224.pick (t := 3) rfl (H224.pick (t := 22) rfl (H224.pick (t := 1) rfl (H224.pick (t := 2) rfl (H224.pick (t := 20) rfl (H224.pick (t := 21) rfl (H224.pick (t := 23) rfl (H224.pick (t := 24) rfl (H224.pick (t := 25) rfl (H224.pick (t := 5) rfl (H224.pick (t := 26) rfl (H224.pick (t := 27) rfl (H224.pick (t := 28) rfl (H224.pick (t := 29) rfl (H224.pick (t := 30) rfl (H224.pick (t := 31) rfl (H224.pick (t := 32) rfl (H224.pick (t := 33) rfl (H224.pick (t := 34) rfl (H224.pick (t := 35) rfl H224.nil))))))))))))))))))))), O218.sel [2, 3, 4, 5] (by decide), ?_, ?_, rfl⟩
   ·
    rw [hm145]; omega
   ·
    omega
   rw [hLj, take_nextR _ j (by omega) (by omega)]; simp [resL, List.append_assoc]
  have H225 := H148.subst_ (d := 37) (b := false) rfl hb150
  clear H148
  (try simp only [decide_eq_false_iff_not, Int.not_lt] at hb150)
  refine wp_exit ?_
  refine gw_thx ?_
  refine gw_thx ?_
  refine gw_in ?_
  refine gw_blk ?_
  refine gw_nx (hK71 _ _ ?_)
  refine wp_region_lit ?_
  refine V H225 (op_add rfl (H225.ev rfl) (ev_c _ _) (by omega)) fun _ H227 => ?_
  refine Vm H227 fun _ H229 => ?_
  clear H225 H227
  refine wpList_nil ?_
  refine gw_nx ⟨_, ?_, i + 1, Lj, Aj, cj, Sj, (H229.pick (t := 22) rfl (H229.pick (t := 3) rfl (H229.pick (t := 1) rfl (H229.pick (t := 2) rfl (H229.pick (t := 20) rfl (H229.pick (t := 21) rfl H229.nil)))))), O144.sel [0, 3] (by decide), ?_, ?_, rfl⟩
  ·
   rw [hm64]; omega
  ·
   omega
  rw [hLj, hLi, body_next su bo ps i (by omega) (by omega), List.take_of_length_le (show (ps.getD i.toNat z46).f1.length ≤ j.toNat by omega)]; simp [partL]
 have H230 := H67.subst_ (d := 23) (b := false) rfl hb69
 clear H67
 (try simp only [decide_eq_false_iff_not, Int.not_lt] at hb69)
 refine wp_exit ?_
 refine gw_thx ?_
 refine gw_thx ?_
 refine gw_in ?_
 refine gw_nx (hK48 _ _ ?_)
 refine gw_seq fun K231 hK231 => ?_
 refine gR fun K232 hK232 => ?_
 refine V H230 (op_loadn gwagg24 gwsiz24 rfl (H230.ev rfl) (O63.get 1 rfl) rfl rfl) fun _ H234 => ?_
 clear H230
 refine Wk H234 Tryd.func12 rfl (ar_cons (H234.ev rfl) ar_nil) (totals_calls su bo A0 c0 ps _ (Kd.C_below hr O63.below) hc (by omega)) ?_
 rintro e235 w236 ⟨rfl, hb237⟩
 refine ⟨_, rfl, fun _ H239 => ?_⟩
 have O240 := O63.after hb237
 clear H234 O63 hb237
 refine V H239 (op_move rfl (ev_c _ _)) fun _ H243 => ?_
 refine gE hK232 ?_
 clear H239
 refine wp_block ?_
 refine gw_loop (fun m_ a_ w_ => ∃ (v : Int) (Lv : List ByteArray) (Av : Option Addr) (cv : Nat) (Sv : Nat → Prop), Fr 79 a_ [(55, J v), (3, .slice Av Lv.length cv), (2, .slice none 0 0), (54, .agg #[J (totL ps 0), J (totL ps 1), J (totL ps 2), J (totL ps 3), J (totL ps 4), J (totL ps 5), J (totL ps 6), J (totL ps 7)])] ∧ Own w w_ [Chunk.row Kd.string 9 w.heap.size Sv (.slice Av Lv.length cv) Lv, Bk g2 [.string su, .string bo, .slice A0 ps.length c0] 24] ∧ (0 ≤ v ∧ v ≤ 8) ∧ (Lv = bodyL su bo ps ++ totsL ps v.toNat) ∧ m_ = (8 - v.toNat)) ((8 - (0 : Int).toNat)) ?_ ?_
 ·
  refine ⟨0, Li, Ai, ci, Si, (H243.pick (t := 55) rfl (H243.pick (t := 3) rfl (H243.pick (t := 2) rfl (H243.pick (t := 54) rfl H243.nil)))), O240.sel [0, 1] (by decide), ?_, ?_, rfl⟩
  ·
   omega
  rw [hLi, List.take_of_length_le (by omega)]; simp [totsL]
 rintro m245 _ w247 ⟨v, Lv, Av, cv, Sv, H248, O249, hv, hLv, hm250⟩
 refine gR fun K251 hK251 => ?_
 refine V H248 (op_lss rfl (H248.ev rfl) (ev_c _ _)) fun _ H253 => ?_
 refine gE hK251 ?_
 refine gw_seq fun K254 hK254 => ?_
 clear H248
 refine gw_cond H253 rfl (fun hb255 => ?_) (fun hb255 => ?_)
 ·
  have H256 := H253.subst_ (d := 56) (b := true) rfl hb255
  clear H253
  (try simp only [decide_eq_true_eq] at hb255)
  refine gS hK254 ?_
  refine gw_seq fun K257 hK257 => ?_
  refine wp_block ?_
  refine gR fun K258 hK258 => ?_
  refine Vm H256 fun _ H260 => ?_
  refine V H260 (op_aidx Tryd.underlying31 gwsiz3 gwagg3 rfl (H260.ev rfl) (H260.ev rfl) (by omega) (agg8 (f := (fun v_ => totL ps v_)) (by omega))) fun _ H262 => ?_
  refine Va H262 fun _ H264 => ?_
  refine Va H264 fun _ H266 => ?_
  refine gE hK258 ?_
  refine gR fun K267 hK267 => ?_
  refine Vm H266 fun _ H269 => ?_
  refine V H269 (op_gtr rfl (H269.ev rfl) (ev_c _ _)) fun _ H271 => ?_
  refine Vm H271 fun _ H273 => ?_
  clear H256 H260 H262 H264 H266 H269 H271
  refine gw_evG H273 rfl rfl rfl rfl (on_t _) rfl (by decide) (fun h_ => (op_move rfl (H273.ev rfl))) ?_
  intro _ H275; clear H273
  refine gw_evG H275 rfl rfl rfl rfl (on_t _) rfl (by decide) (fun h_ => (op_gtr rfl (ev_gv (H275.ev rfl) h_) (ev_c _ _))) ?_
  intro _ H277; clear H275
  refine V H277 (op_pick_and rfl (H277.ev rfl) (fun hp_ => (ev_gv (H277.ev rfl) hp_)) (ev_c _ _)) fun _ H279 => ?_
  refine gE hK267 ?_
  clear H277
  refine gw_cond H279 rfl (fun hb280 => ?_) (fun hb280 => ?_)
  ·
   have H281 := H279.subst_ (d := 64) (b := true) rfl hb280
   clear H279
   (try simp only [Bool.and_eq_true, Bool.and_eq_false_iff, decide_eq_true_eq, decide_eq_false_iff_not, Int.not_lt] at hb280)
   refine wp_region_lit ?_
   refine Vm H281 fun _ H283 => ?_
   refine Vm H283 fun _ H285 => ?_
   clear H281 H283
   refine Wk H285 Tryd.func25 rfl (ar_cons (H285.ev rfl) ar_nil) (vt_calls v _) ?_
   rintro e286 w287 ⟨rfl, hb288⟩
   refine ⟨_, rfl, fun _ H290 => ?_⟩
   have O291 := O249.after hb288
   clear H285 O249 hb288
   refine V H290 (op_cats rfl (ev_c _ _) (H290.ev rfl) (by (try simp only [size_cat]); have h0_ := vt_size v; have h1_ : (⟨#[35, 32]⟩ : ByteArray).size = 2 := rfl; omega)) fun _ H294 => ?_
   refine V H294 (op_cats rfl (H294.ev rfl) (ev_c _ _) (by (try simp only [size_cat]); have h0_ := vt_size v; have h1_ : (⟨#[35, 32]⟩ : ByteArray).size = 2 := rfl; have h2_ : (⟨#[32]⟩ : ByteArray).size = 1 := rfl; omega)) fun _ H296 => ?_
   refine Vm H296 fun _ H298 => ?_
   clear H290 H294 H296
   refine Wk H298 Tryd.func43 rfl (ar_cons (H298.ev rfl) ar_nil) (it_calls (totL ps v) (by have h_ := tot_b ps v; omega) _ (hL.own O291)) ?_
   rintro e299 w300 ⟨rfl, hb301⟩
   refine ⟨_, rfl, fun _ H303 => ?_⟩
   have O304 := O291.after hb301
   clear H298 O291 hb301
   refine V H303 (op_cats rfl (H303.ev rfl) (H303.ev rfl) (by (try simp only [size_cat]); have h0_ := vt_size v; have h1_ := it_size (totL ps v) (by have h_ := tot_b ps v; omega); have h2_ : (⟨#[35, 32]⟩ : ByteArray).size = 2 := rfl; have h3_ : (⟨#[32]⟩ : ByteArray).size = 1 := rfl; omega)) fun _ H307 => ?_
   clear H303
   refine gw_lit (enc := Value.string) (fun _ => rfl) (xs := [((((⟨#[35, 32]⟩ : ByteArray) ++ (vtB v)) ++ (⟨#[32]⟩ : ByteArray)) ++ (itB (totL ps v)))]) (e := 9) H307 O304 (want_none rfl) rfl (by decide) (op_bslice (by kernel_rfl) rfl (pt_cons (H307.ev rfl) pt_nil)) (by simp) ?_
   intro A308 S309 _ w311 H312 O313; clear H307 O304
   have O314 : Own w w311 [Chunk.row Kd.string 9 w.heap.size S309 (.slice A308 (([((((⟨#[35, 32]⟩ : ByteArray) ++ (vtB v)) ++ (⟨#[32]⟩ : ByteArray)) ++ (itB (totL ps v)))]).length) (([((((⟨#[35, 32]⟩ : ByteArray) ++ (vtB v)) ++ (⟨#[32]⟩ : ByteArray)) ++ (itB (totL ps v)))]).length)) ([((((⟨#[35, 32]⟩ : ByteArray) ++ (vtB v)) ++ (⟨#[32]⟩ : ByteArray)) ++ (itB (totL ps v)))]), Chunk.row Kd.string 9 w.heap.size Sv (.slice Av Lv.length cv) Lv, Bk g2 [.string su, .string bo, .slice A0 ps.length c0] 24] := O313
   clear O313
   refine gw_append Kd.string 1 H312 O314 (want_none rfl) rfl (by decide) rfl Tryd.underlying58 gwinfo9 rfl (by decide) (by decide) rfl (H312.ev rfl) (H312.ev rfl) (Kd.R_reads' (O314.get 0 rfl)).2.2 (fun _ _ h => h) O314.below.size (by rw [hLv]; have h1_ := body_len su bo ps; have h2_ := tots_len ps v.toNat; simp; omega) ?_
   intro A315 c316 S317 _ w319 H320 O321; clear H312 O314
   have O322 : Own w w319 [Chunk.row Kd.string 9 w.heap.size S309 (.slice A308 (([((((⟨#[35, 32]⟩ : ByteArray) ++ (vtB v)) ++ (⟨#[32]⟩ : ByteArray)) ++ (itB (totL ps v)))]).length) (([((((⟨#[35, 32]⟩ : ByteArray) ++ (vtB v)) ++ (⟨#[32]⟩ : ByteArray)) ++ (itB (totL ps v)))]).length)) ([((((⟨#[35, 32]⟩ : ByteArray) ++ (vtB v)) ++ (⟨#[32]⟩ : ByteArray)) ++ (itB (totL ps v)))]), Chunk.row Kd.string 9 w.heap.size S317 (.slice A315 ((Lv ++ [((((⟨#[35, 32]⟩ : ByteArray) ++ (vtB v)) ++ (⟨#[32]⟩ : ByteArray)) ++ (itB (totL ps v)))]).length) c316) (Lv ++ [((((⟨#[35, 32]⟩ : ByteArray) ++ (vtB v)) ++ (⟨#[32]⟩ : ByteArray)) ++ (itB (totL ps v)))]), Bk g2 [.string su, .string bo, .slice A0 ps.length c0] 24] := O321
   clear O321
   refine Va H320 fun _ H324 => ?_
   clear H320
   refine wpList_nil ?_
   refine gw_blk ?_
   refine gw_nx (hK257 _ _ ?_)
   refine wp_region_lit ?_
   refine V H324 (op_add rfl (H324.ev rfl) (ev_c _ _) (by omega)) fun _ H326 => ?_
   refine Vm H326 fun _ H328 => ?_
   clear H324 H326
   refine wpList_nil ?_
   refine gw_nx ⟨_, ?_, v + 1, (Lv ++ [((((⟨#[35, 32]⟩ : ByteArray) ++ (vtB v)) ++ (⟨#[32]⟩ : ByteArray)) ++ (itB (totL ps v)))]), A315, c316, S317, (H328.pick (t := 55) rfl (H328.pick (t := 3) rfl (H328.pick (t := 2) rfl (H328.pick (t := 54) rfl H328.nil)))), O322.sel [1, 2] (by decide), ?_, ?_, rfl⟩
   ·
    rw [hm250]; omega
   ·
    omega
   rw [hLv, tots_yes ps v (by omega) (by omega), List.append_assoc]
  have H329 := H279.subst_ (d := 64) (b := false) rfl hb280
  clear H279
  (try simp only [Bool.and_eq_true, Bool.and_eq_false_iff, decide_eq_true_eq, decide_eq_false_iff_not, Int.not_lt] at hb280)
  refine wp_skip ?_
  refine gw_blk ?_
  refine gw_nx (hK257 _ _ ?_)
  refine wp_region_lit ?_
  refine V H329 (op_add rfl (H329.ev rfl) (ev_c _ _) (by omega)) fun _ H331 => ?_
  refine Vm H331 fun _ H333 => ?_
  clear H329 H331
  refine wpList_nil ?_
  refine gw_nx ⟨_, ?_, v + 1, Lv, Av, cv, Sv, (H333.pick (t := 55) rfl (H333.pick (t := 3) rfl (H333.pick (t := 2) rfl (H333.pick (t := 54) rfl H333.nil)))), O249.sel [0, 1] (by decide), ?_, ?_, rfl⟩
  ·
   rw [hm250]; omega
  ·
   omega
  rw [hLv, tots_no ps v (by omega) (by omega)]
 have H334 := H253.subst_ (d := 56) (b := false) rfl hb255
 clear H253
 (try simp only [decide_eq_false_iff_not, Int.not_lt] at hb255)
 refine wp_exit ?_
 refine gw_thx ?_
 refine gw_thx ?_
 refine gw_in ?_
 refine gw_nx (hK231 _ _ ?_)
 refine gR fun K335 hK335 => ?_
 refine Vm H334 fun _ H337 => ?_
 clear H334
 refine gw_lit (enc := Value.string) (fun _ => rfl) (xs := [(⟨#[35, 32, 101, 110, 100]⟩ : ByteArray)]) (e := 9) H337 O249 (want_none rfl) rfl (by decide) (op_bslice (by kernel_rfl) rfl (pt_cons (ev_c _ _) pt_nil)) (by simp) ?_
 intro A338 S339 _ w341 H342 O343; clear H337 O249
 have O344 : Own w w341 [Chunk.row Kd.string 9 w.heap.size S339 (.slice A338 (([(⟨#[35, 32, 101, 110, 100]⟩ : ByteArray)]).length) (([(⟨#[35, 32, 101, 110, 100]⟩ : ByteArray)]).length)) ([(⟨#[35, 32, 101, 110, 100]⟩ : ByteArray)]), Chunk.row Kd.string 9 w.heap.size Sv (.slice Av Lv.length cv) Lv, Bk g2 [.string su, .string bo, .slice A0 ps.length c0] 24] := O343
 clear O343
 refine gw_append Kd.string 1 H342 O344 (want_none rfl) rfl (by decide) rfl Tryd.underlying58 gwinfo9 rfl (by decide) (by decide) rfl (H342.ev rfl) (H342.ev rfl) (Kd.R_reads' (O344.get 0 rfl)).2.2 (fun _ _ h => h) O344.below.size (by rw [hLv]; have h1_ := body_len su bo ps; have h2_ := tots_len ps v.toNat; simp; omega) ?_
 intro A345 c346 S347 _ w349 H350 O351; clear H342 O344
 have O352 : Own w w349 [Chunk.row Kd.string 9 w.heap.size S339 (.slice A338 (([(⟨#[35, 32, 101, 110, 100]⟩ : ByteArray)]).length) (([(⟨#[35, 32, 101, 110, 100]⟩ : ByteArray)]).length)) ([(⟨#[35, 32, 101, 110, 100]⟩ : ByteArray)]), Chunk.row Kd.string 9 w.heap.size S347 (.slice A345 ((Lv ++ [(⟨#[35, 32, 101, 110, 100]⟩ : ByteArray)]).length) c346) (Lv ++ [(⟨#[35, 32, 101, 110, 100]⟩ : ByteArray)]), Bk g2 [.string su, .string bo, .slice A0 ps.length c0] 24] := O351
 clear O351
 refine Va H350 fun _ H354 => ?_
 refine gE hK335 ?_
 refine wp_ret ?_
 clear H350
 refine gw_ret1 H354 rfl rfl ?_
 have en : Lv ++ [(⟨#[35, 32, 101, 110, 100]⟩ : ByteArray)] = linesL su bo ps := by rw [hLv, show v.toNat = 8 by omega]; rfl
 simp only [en] at *
 exact ⟨_, _, _, rfl, (O352.sel [1] (by decide)).out⟩
end GLines_
export GLines_ (lines_calls)
namespace GNamed_
theorem split_calls (s : ByteArray) (w : World) (hs : s.size ≤ 1000000000) (hL : LaidW w) :
    Calls Tryd.prog 30 #[.string s, .string (⟨#[10]⟩ : ByteArray)] w fun e w' => ∃ A c S, e = .returned (.slice A (pcs s).length c) ∧ Out w w' (fun _ => False) [Chunk.view Kd.string S A (pcs s).length c (pcs s)] := by
 refine gw_start (N := 10) (vs := [.string s, .string (⟨#[10]⟩ : ByteArray)]) Tryd.func30 rfl rfl (by simp) fun a HF HO => ?_
 replace HO : Own w w [] := HO
 refine gR fun K1 hK1 => ?_
 refine Vc HF ?_
 intro _ H3; clear HF
 refine gE hK1 ?_
 refine gR fun K4 hK4 => ?_
 refine Vm H3 fun _ H6 => ?_
 refine Vm H6 fun _ H8 => ?_
 refine Vm H8 fun _ H10 => ?_
 refine V H10 (op_lens Tryd.underlying9 rfl (H10.ev rfl)) fun _ H12 => ?_
 clear H3 H6 H8 H10
 refine Wk H12 Tryd.func47 rfl (ar_cons (H12.ev rfl) (ar_cons (H12.ev rfl) (ar_cons (H12.ev rfl) (ar_cons (ev_c _ _) ar_nil)))) (gs_calls s (by omega) _ (hL.own HO)) ?_
 rintro e17 w18 ⟨A13, c14, S15, rfl, hb19⟩
 refine ⟨_, rfl, fun _ H21 => ?_⟩
 have O22 := HO.fresh hb19
 clear H12 HO hb19
 refine Va H21 fun _ H25 => ?_
 refine gE hK4 ?_
 refine wp_ret ?_
 clear H21
 refine gw_ret1 H25 rfl rfl ?_
 exact ⟨_, _, _, rfl, O22.out⟩
theorem named_0 (w0 : World) (R : Chunk) (gs : Nat) (l wd x0 : ByteArray) (v1 v2 : Value) (w : World) (hl : l.size ≤ 1000000000) (HO : Own w0 w [R, Bk gs [.string x0, v1, v2] 24]) :
    Calls Tryd.prog 32 #[.string l, .string wd, .pointer (some ⟨gs, 0, none⟩)] w fun e w' => e = .returned (.bool (nmO l wd)) ∧ Own w0 w' [R, Bk gs [.string (nmB l wd), v1, v2] 24] := by
 refine gw_startO (N := 29) (vs := [.string l, .string wd, .pointer (some ⟨gs, 0, none⟩)]) Tryd.func32 rfl rfl (by simp) fun a HF => ?_
 refine gR fun K1 hK1 => ?_
 refine Vc HF ?_
 intro _ H3; clear HF
 refine gE hK1 ?_
 refine gR fun K4 hK4 => ?_
 refine Vm H3 fun _ H6 => ?_
 refine Vm H6 fun _ H8 => ?_
 clear H3 H6
 refine Wk H8 Tryd.func49 rfl (ar_cons (H8.ev rfl) (ar_cons (H8.ev rfl) ar_nil)) (cp_calls l wd _) ?_
 rintro e9 w10 ⟨rfl, hb11⟩
 refine ⟨_, rfl, fun _ H13 => ?_⟩
 have O14 := HO.after hb11
 clear H8 HO hb11
 refine Vm H13 fun _ H17 => ?_
 refine Vx H17 fun _ H19 => ?_
 refine Vx H19 fun _ H21 => ?_
 refine Va H21 fun _ H23 => ?_
 refine Va H23 fun _ H25 => ?_
 refine gE hK4 ?_
 refine gR fun K26 hK26 => ?_
 refine Vm H25 fun _ H28 => ?_
 clear H13 H17 H19 H21 H23 H25
 refine Wk H28 Tryd.func50 rfl (ar_cons (H28.ev rfl) ar_nil) (rd_calls (tpB l wd) (by have h_ := tp_size l wd; omega) _) ?_
 rintro e29 w30 ⟨rfl, hb31⟩
 refine ⟨_, rfl, fun _ H33 => ?_⟩
 have O34 := O14.after hb31
 clear H28 O14 hb31
 refine Vm H33 fun _ H37 => ?_
 refine Vx H37 fun _ H39 => ?_
 refine Vx H39 fun _ H41 => ?_
 refine Va H41 fun _ H43 => ?_
 refine Va H43 fun _ H45 => ?_
 refine gE hK26 ?_
 refine gR fun K46 hK46 => ?_
 refine Vm H45 fun _ H48 => ?_
 refine Vm H48 fun _ H50 => ?_
 refine Vz H50 fun _ H52 => ?_
 clear H33 H37 H39 H41 H43 H45 H48 H50
 refine gw_set 1 H52 O34 rfl (want_none rfl) rfl (op_store1 gwsiz9 rfl (H52.ev rfl) (H52.ev rfl) rfl (blk_at (O34.get 1 rfl) rfl) (blkf (O34.get 1 rfl))) ?_
 intro _ w55 H54 O56; clear H52 O34
 refine gE hK46 ?_
 refine gR fun K57 hK57 => ?_
 refine Vm H54 fun _ H59 => ?_
 refine Vm H59 fun _ H61 => ?_
 clear H54 H59
 refine gw_evG H61 rfl rfl rfl rfl (on_t _) rfl (by decide) (fun h_ => (op_move rfl (H61.ev rfl))) ?_
 intro _ H63; clear H61
 refine V H63 (op_pick_and rfl (H63.ev rfl) (fun hp_ => (ev_gv (H63.ev rfl) hp_)) (ev_c _ _)) fun _ H65 => ?_
 refine Va H65 fun _ H67 => ?_
 refine gE hK57 ?_
 refine wp_ret ?_
 clear H63 H65
 refine gw_ret1 H67 rfl rfl ?_
 exact ⟨by first | rfl | (unfold nmO; simp only [Bool.and_false]; rfl) | (unfold nmO; simp), O56.sel [0, 1] (by decide)⟩
theorem named_1 (w0 : World) (R : Chunk) (gs : Nat) (l wd x0 : ByteArray) (v0 v2 : Value) (w : World) (hl : l.size ≤ 1000000000) (HO : Own w0 w [R, Bk gs [v0, .string x0, v2] 24]) :
    Calls Tryd.prog 32 #[.string l, .string wd, .pointer (some ⟨gs, 1, none⟩)] w fun e w' => e = .returned (.bool (nmO l wd)) ∧ Own w0 w' [R, Bk gs [v0, .string (nmB l wd), v2] 24] := by
 refine gw_startO (N := 29) (vs := [.string l, .string wd, .pointer (some ⟨gs, 1, none⟩)]) Tryd.func32 rfl rfl (by simp) fun a HF => ?_
 refine gR fun K1 hK1 => ?_
 refine Vc HF ?_
 intro _ H3; clear HF
 refine gE hK1 ?_
 refine gR fun K4 hK4 => ?_
 refine Vm H3 fun _ H6 => ?_
 refine Vm H6 fun _ H8 => ?_
 clear H3 H6
 refine Wk H8 Tryd.func49 rfl (ar_cons (H8.ev rfl) (ar_cons (H8.ev rfl) ar_nil)) (cp_calls l wd _) ?_
 rintro e9 w10 ⟨rfl, hb11⟩
 refine ⟨_, rfl, fun _ H13 => ?_⟩
 have O14 := HO.after hb11
 clear H8 HO hb11
 refine Vm H13 fun _ H17 => ?_
 refine Vx H17 fun _ H19 => ?_
 refine Vx H19 fun _ H21 => ?_
 refine Va H21 fun _ H23 => ?_
 refine Va H23 fun _ H25 => ?_
 refine gE hK4 ?_
 refine gR fun K26 hK26 => ?_
 refine Vm H25 fun _ H28 => ?_
 clear H13 H17 H19 H21 H23 H25
 refine Wk H28 Tryd.func50 rfl (ar_cons (H28.ev rfl) ar_nil) (rd_calls (tpB l wd) (by have h_ := tp_size l wd; omega) _) ?_
 rintro e29 w30 ⟨rfl, hb31⟩
 refine ⟨_, rfl, fun _ H33 => ?_⟩
 have O34 := O14.after hb31
 clear H28 O14 hb31
 refine Vm H33 fun _ H37 => ?_
 refine Vx H37 fun _ H39 => ?_
 refine Vx H39 fun _ H41 => ?_
 refine Va H41 fun _ H43 => ?_
 refine Va H43 fun _ H45 => ?_
 refine gE hK26 ?_
 refine gR fun K46 hK46 => ?_
 refine Vm H45 fun _ H48 => ?_
 refine Vm H48 fun _ H50 => ?_
 refine Vz H50 fun _ H52 => ?_
 clear H33 H37 H39 H41 H43 H45 H48 H50
 refine gw_set 1 H52 O34 rfl (want_none rfl) rfl (op_store1 gwsiz9 rfl (H52.ev rfl) (H52.ev rfl) rfl (blk_at (O34.get 1 rfl) rfl) (blkf (O34.get 1 rfl))) ?_
 intro _ w55 H54 O56; clear H52 O34
 refine gE hK46 ?_
 refine gR fun K57 hK57 => ?_
 refine Vm H54 fun _ H59 => ?_
 refine Vm H59 fun _ H61 => ?_
 clear H54 H59
 refine gw_evG H61 rfl rfl rfl rfl (on_t _) rfl (by decide) (fun h_ => (op_move rfl (H61.ev rfl))) ?_
 intro _ H63; clear H61
 refine V H63 (op_pick_and rfl (H63.ev rfl) (fun hp_ => (ev_gv (H63.ev rfl) hp_)) (ev_c _ _)) fun _ H65 => ?_
 refine Va H65 fun _ H67 => ?_
 refine gE hK57 ?_
 refine wp_ret ?_
 clear H63 H65
 refine gw_ret1 H67 rfl rfl ?_
 exact ⟨by first | rfl | (unfold nmO; simp only [Bool.and_false]; rfl) | (unfold nmO; simp), O56.sel [0, 1] (by decide)⟩
theorem named_2 (w0 : World) (R : Chunk) (gs : Nat) (l wd x0 : ByteArray) (v1 : Value) (w : World) (hl : l.size ≤ 1000000000) (HO : Own w0 w [R, Bk gs [.string x0, v1] 46]) :
    Calls Tryd.prog 32 #[.string l, .string wd, .pointer (some ⟨gs, 0, none⟩)] w fun e w' => e = .returned (.bool (nmO l wd)) ∧ Own w0 w' [R, Bk gs [.string (nmB l wd), v1] 46] := by
 refine gw_startO (N := 29) (vs := [.string l, .string wd, .pointer (some ⟨gs, 0, none⟩)]) Tryd.func32 rfl rfl (by simp) fun a HF => ?_
 refine gR fun K1 hK1 => ?_
 refine Vc HF ?_
 intro _ H3; clear HF
 refine gE hK1 ?_
 refine gR fun K4 hK4 => ?_
 refine Vm H3 fun _ H6 => ?_
 refine Vm H6 fun _ H8 => ?_
 clear H3 H6
 refine Wk H8 Tryd.func49 rfl (ar_cons (H8.ev rfl) (ar_cons (H8.ev rfl) ar_nil)) (cp_calls l wd _) ?_
 rintro e9 w10 ⟨rfl, hb11⟩
 refine ⟨_, rfl, fun _ H13 => ?_⟩
 have O14 := HO.after hb11
 clear H8 HO hb11
 refine Vm H13 fun _ H17 => ?_
 refine Vx H17 fun _ H19 => ?_
 refine Vx H19 fun _ H21 => ?_
 refine Va H21 fun _ H23 => ?_
 refine Va H23 fun _ H25 => ?_
 refine gE hK4 ?_
 refine gR fun K26 hK26 => ?_
 refine Vm H25 fun _ H28 => ?_
 clear H13 H17 H19 H21 H23 H25
 refine Wk H28 Tryd.func50 rfl (ar_cons (H28.ev rfl) ar_nil) (rd_calls (tpB l wd) (by have h_ := tp_size l wd; omega) _) ?_
 rintro e29 w30 ⟨rfl, hb31⟩
 refine ⟨_, rfl, fun _ H33 => ?_⟩
 have O34 := O14.after hb31
 clear H28 O14 hb31
 refine Vm H33 fun _ H37 => ?_
 refine Vx H37 fun _ H39 => ?_
 refine Vx H39 fun _ H41 => ?_
 refine Va H41 fun _ H43 => ?_
 refine Va H43 fun _ H45 => ?_
 refine gE hK26 ?_
 refine gR fun K46 hK46 => ?_
 refine Vm H45 fun _ H48 => ?_
 refine Vm H48 fun _ H50 => ?_
 refine Vz H50 fun _ H52 => ?_
 clear H33 H37 H39 H41 H43 H45 H48 H50
 refine gw_set 1 H52 O34 rfl (want_none rfl) rfl (op_store1 gwsiz9 rfl (H52.ev rfl) (H52.ev rfl) rfl (blk_at (O34.get 1 rfl) rfl) (blkf (O34.get 1 rfl))) ?_
 intro _ w55 H54 O56; clear H52 O34
 refine gE hK46 ?_
 refine gR fun K57 hK57 => ?_
 refine Vm H54 fun _ H59 => ?_
 refine Vm H59 fun _ H61 => ?_
 clear H54 H59
 refine gw_evG H61 rfl rfl rfl rfl (on_t _) rfl (by decide) (fun h_ => (op_move rfl (H61.ev rfl))) ?_
 intro _ H63; clear H61
 refine V H63 (op_pick_and rfl (H63.ev rfl) (fun hp_ => (ev_gv (H63.ev rfl) hp_)) (ev_c _ _)) fun _ H65 => ?_
 refine Va H65 fun _ H67 => ?_
 refine gE hK57 ?_
 refine wp_ret ?_
 clear H63 H65
 refine gw_ret1 H67 rfl rfl ?_
 exact ⟨by first | rfl | (unfold nmO; simp only [Bool.and_false]; rfl) | (unfold nmO; simp), O56.sel [0, 1] (by decide)⟩
end GNamed_
export GNamed_ (split_calls named_0 named_1 named_2)
namespace GLine_
theorem line_0 (w0 : World) (R : Chunk) (gs : Nat) (su bo l : ByteArray) (A : Option Addr) (c : Nat) (Sr Sd : Nat → Prop) (w : World) (hl : l.size ≤ 1000000000) (hL : LaidW w0) (hWl : ([] : List W2).length ≤ 1000000000) (HO : Own w0 w [R, Bk gs [.string su, .string bo, .slice A (([] : List W2).length) c] 24, Chunk.row kW 46 w0.heap.size Sr (.slice A (([] : List W2).length) c) ([] : List W2), Chunk.dn w0.heap.size Sd [] []]) :
    Calls Tryd.prog 34 #[.pointer (some ⟨gs, 0, none⟩), .string l] w fun e w' => ∃ X : SmX, e = .returned (.bool (lineO ([] : List PP) l)) ∧ X.ok ∧ X.ps = lineS ([] : List PP) l ∧ Own w0 w' (R :: smL w0.heap.size gs su bo X) := by
 refine gw_startO (N := 84) (vs := [.pointer (some ⟨gs, 0, none⟩), .string l]) Tryd.func34 rfl rfl (by simp) fun a HF => ?_
 refine gR fun K1 hK1 => ?_
 refine Vc HF ?_
 intro _ H3; clear HF
 refine gE hK1 ?_
 refine gw_seq fun K4 hK4 => ?_
 refine gR fun K5 hK5 => ?_
 refine Vm H3 fun _ H7 => ?_
 clear H3
 refine Wk H7 Tryd.func33 rfl (ar_cons (H7.ev rfl) (ar_cons (ev_c _ _) ar_nil)) (hp_calls l (⟨#[103, 114, 111, 117, 112, 32]⟩ : ByteArray) _) ?_
 rintro e8 w9 ⟨rfl, hb10⟩
 refine ⟨_, rfl, fun _ H12 => ?_⟩
 have O13 := HO.after hb10
 clear H7 HO hb10
 refine gE hK5 ?_
 refine gw_cond H12 rfl (fun hb15 => ?_) (fun hb15 => ?_)
 ·
  have H16 := H12.subst_ (d := 15) (b := true) rfl hb15
  clear H12
  (try simp only [Bool.not_eq_true] at hb15)
  have hgp := hb15
  refine gR fun K17 hK17 => ?_
  refine gw_new H16 O13 (want_none rfl) rfl (by decide) (op_alloc gwzer46 rfl) ?_
  intro g18 _ w20 H21 O22; clear H16 O13
  have O23 : Own w0 w20 [Bk g18 [.string (⟨#[]⟩ : ByteArray), .slice none 0 0] 46, R, Bk gs [.string su, .string bo, .slice A (([] : List W2).length) c] 24, Chunk.row kW 46 w0.heap.size Sr (.slice A (([] : List W2).length) c) ([] : List W2), Chunk.dn w0.heap.size Sd [] []] := O22
  clear O22
  refine gE hK17 ?_
  refine gR fun K24 hK24 => ?_
  refine Vm H21 fun _ H26 => ?_
  refine Vf H26 (gwfld46_0 _ _) fun _ H28 => ?_
  clear H21 H26
  have O35 : Own w0 _ [(Chunk.all [R, Bk gs [.string su, .string bo, .slice A (([] : List W2).length) c] 24, Chunk.row kW 46 w0.heap.size Sr (.slice A (([] : List W2).length) c) ([] : List W2), Chunk.dn w0.heap.size Sd [] []]), Bk g18 [.string (⟨#[]⟩ : ByteArray), .slice none 0 0] 46] := Own.bundle (O23.sel [1, 2, 3, 4, 0] (by decide))
  refine Wk H28 Tryd.func32 rfl (ar_cons (H28.ev rfl) (ar_cons (ev_c _ _) (ar_cons (H28.ev rfl) ar_nil))) (named_2 w0 (Chunk.all [R, Bk gs [.string su, .string bo, .slice A (([] : List W2).length) c] 24, Chunk.row kW 46 w0.heap.size Sr (.slice A (([] : List W2).length) c) ([] : List W2), Chunk.dn w0.heap.size Sd [] []]) g18 l (⟨#[103, 114, 111, 117, 112, 32]⟩ : ByteArray) (⟨#[]⟩ : ByteArray) (.slice none 0 0) _ (by omega) O35) ?_
  rintro e29 w30 ⟨rfl, hb31⟩
  refine ⟨_, rfl, fun _ H33 => ?_⟩
  have O34 : Own w0 w30 [R, Bk gs [.string su, .string bo, .slice A (([] : List W2).length) c] 24, Chunk.row kW 46 w0.heap.size Sr (.slice A (([] : List W2).length) c) ([] : List W2), Chunk.dn w0.heap.size Sd [] [], Bk g18 [.string (nmB l (⟨#[103, 114, 111, 117, 112, 32]⟩ : ByteArray)), .slice none 0 0] 46] := Own.unbundle (hb31.sel [0, 1] (by decide))
  clear O35
  clear H28 O23 hb31
  refine Va H33 fun _ H38 => ?_
  refine gE hK24 ?_
  refine gw_seq fun K39 hK39 => ?_
  clear H33
  refine gx_draw (M := [R, Bk gs [.string su, .string bo, .slice A (([] : List W2).length) c] 24, Chunk.dn w0.heap.size Sd [] [], Bk g18 [.string (nmB l (⟨#[103, 114, 111, 117, 112, 32]⟩ : ByteArray)), .slice none 0 0] 46]) (fun j_ => j_ == 10) O34 (by kernel_rfl) fun w40 O41 => ?_
  clear O34
  refine gx_take 0 rfl (by kernel_rfl) H38 (by exact O41.sel [0, 1, 3, 4] (by decide)) (want_none rfl) rfl (by decide) (fun wq HO => (op_move rfl (H38.ev rfl))) ?_
  intro _ H43; clear H38
  refine gx_take 1 rfl (by kernel_rfl) H43 (by exact O41.sel [0, 1, 3, 4] (by decide)) (want_none rfl) rfl (by decide) (fun wq HO => (op_move rfl (H43.ev rfl))) ?_
  intro _ H45; clear H43
  refine gx_take 2 rfl (by kernel_rfl) H45 (by exact O41.sel [0, 1, 3, 4] (by decide)) (want_none rfl) rfl (by decide) (fun wq HO => (op_nil rfl (H45.ev rfl))) ?_
  intro _ H47; clear H45
  refine gx_take 3 rfl (by kernel_rfl) H47 (by exact O41.sel [0, 1, 3, 4] (by decide)) (want_none rfl) rfl (by decide) (fun wq HO => (op_field (gwfld24_2 _ _) rfl (H47.ev rfl))) ?_
  intro _ H49; clear H47
  refine gx_take 4 rfl (by kernel_rfl) H49 (by exact O41.sel [0, 1, 3, 4] (by decide)) (want_none rfl) rfl (by decide) (fun wq HO => (op_load1 gwagg22 rfl (H49.ev rfl) (blk_at (HO.get 1 rfl) rfl))) ?_
  intro _ H51; clear H49
  refine gx_take 5 rfl (by kernel_rfl) H51 (by exact O41.sel [0, 1, 3, 4] (by decide)) (want_none rfl) rfl (by decide) (fun wq HO => (op_loadn gwagg46 gwsiz46 rfl (H51.ev rfl) (HO.get 3 rfl) rfl rfl)) ?_
  intro _ H53; clear H51
  refine gx_step 6 rfl (by kernel_rfl) ?_
  refine gw_news (O := .cells #[.string (nmB l (⟨#[103, 114, 111, 117, 112, 32]⟩ : ByteArray)), .slice none 0 0] 46 (0, 0)) (n := 1) H53 O41 (want_none rfl) rfl (by decide) (op_bslice (by kernel_rfl) rfl (pt_cons (H53.ev rfl) pt_nil)) ?_
  intro g54 _ w56 H57 O58; clear H53 O41
  have O59 : Own w0 w56 [Bk g54 [.string (nmB l (⟨#[103, 114, 111, 117, 112, 32]⟩ : ByteArray)), .slice none 0 0] 46, R, Bk gs [.string su, .string bo, .slice A (([] : List W2).length) c] 24, Chunk.row kW 46 w0.heap.size Sr (.slice A (([] : List W2).length) c) ([] : List W2), Chunk.dn w0.heap.size Sd [] [], Bk g18 [.string (nmB l (⟨#[103, 114, 111, 117, 112, 32]⟩ : ByteArray)), .slice none 0 0] 46] := O58
  clear O58
  refine gx_on (i := 6) (B := (fun j_ => j_ == 10)) (fun _ => (by exact O59.sel [1, 2, 4, 5] (by decide))) ?_
  refine gx_step 7 rfl (by kernel_rfl) ?_
  have O60 : Own w0 _ [Chunk.row kW 46 w0.heap.size Sr (.slice A (([] : List W2).length) c) ([] : List W2), Chunk.void, Bk g54 [.string (nmB l (⟨#[103, 114, 111, 117, 112, 32]⟩ : ByteArray)), .slice none 0 0] 46, R, Bk gs [.string su, .string bo, .slice A (([] : List W2).length) c] 24, Chunk.dn w0.heap.size Sd [] [], Bk g18 [.string (nmB l (⟨#[103, 114, 111, 117, 112, 32]⟩ : ByteArray)), .slice none 0 0] 46] := O59.void.sel [4, 0, 1, 2, 3, 5, 6] (by decide)
  refine gw_append1 kW 0 (p := (⟨(nmB l (⟨#[103, 114, 111, 117, 112, 32]⟩ : ByteArray)), ⟨none, 0, 0⟩⟩ : W2)) (cs := [.string (nmB l (⟨#[103, 114, 111, 117, 112, 32]⟩ : ByteArray)), .slice none 0 0]) H57 O60 (want_none rfl) rfl (by decide) rfl Tryd.underlying22 gwinfo46 rfl (by decide) (by decide) rfl (H57.ev rfl) (H57.ev rfl) (fun w_ h_ => kW_mkM w_ _ _ (⟨(nmB l (⟨#[103, 114, 111, 117, 112, 32]⟩ : ByteArray)), ⟨none, 0, 0⟩⟩ : W2) ) O60.below.size (by simp) ?_
  intro A61 c62 S63 _ w65 H66 O67; clear H57 O59 O60
  have O68 : Own w0 w65 [Chunk.row kW 46 w0.heap.size S63 (.slice A61 ((([] : List W2) ++ [(⟨(nmB l (⟨#[103, 114, 111, 117, 112, 32]⟩ : ByteArray)), ⟨none, 0, 0⟩⟩ : W2)]).length) c62) (([] : List W2) ++ [(⟨(nmB l (⟨#[103, 114, 111, 117, 112, 32]⟩ : ByteArray)), ⟨none, 0, 0⟩⟩ : W2)]), Bk g54 [.string (nmB l (⟨#[103, 114, 111, 117, 112, 32]⟩ : ByteArray)), .slice none 0 0] 46, R, Bk gs [.string su, .string bo, .slice A (([] : List W2).length) c] 24, Chunk.dn w0.heap.size Sd [] [], Bk g18 [.string (nmB l (⟨#[103, 114, 111, 117, 112, 32]⟩ : ByteArray)), .slice none 0 0] 46] := O67
  clear O67
  refine gx_on (i := 7) (B := (fun j_ => j_ == 10)) (fun _ => (by exact O68.sel [2, 3, 4, 5] (by decide))) ?_
  refine gx_step 8 rfl (by kernel_rfl) ?_
  refine Vz H66 fun _ H70 => ?_
  clear H66
  refine gx_on (i := 8) (B := (fun j_ => j_ == 10)) (fun _ => (by exact O68.sel [2, 3, 4, 5] (by decide))) ?_
  refine gx_take 9 rfl (by kernel_rfl) H70 (by exact O68.sel [2, 3, 4, 5] (by decide)) (want_none rfl) rfl (by decide) (fun wq HO => (op_field (gwfld24_2 _ _) rfl (H70.ev rfl))) ?_
  intro _ H72; clear H70
  refine gx_step 10 rfl (by kernel_rfl) ?_
  refine gw_set 3 H72 O68 rfl (want_none rfl) rfl (op_store1 gwsiz22 rfl (H72.ev rfl) (H72.ev rfl) rfl (blk_at (O68.get 3 rfl) rfl) (blkf (O68.get 3 rfl))) ?_
  intro _ w75 H74 O76; clear H72 O68
  refine gx_on (i := 10) (B := (fun j_ => j_ == 10)) (fun h_ => by cases h_) ?_
  refine gx_done (by kernel_rfl) ?_
  refine gw_nx (hK39 _ _ ?_)
  refine gR fun K77 hK77 => ?_
  refine Vm H74 fun _ H79 => ?_
  refine Va H79 fun _ H81 => ?_
  refine gE hK77 ?_
  refine wp_ret ?_
  clear H74 H79
  refine gw_thr ?_
  refine gw_ret1 H81 rfl rfl ?_
  have O82_1 := O76.sel [4, 3, 0, 2] (by decide)
  have O82_2 := O82_1.row_nil KR 49 w0.heap.size
  refine ⟨⟨A61, c62, [], [], some _, [], none, 0, S63, _, fun _ => False⟩, ?_, fun h_ => (by cases h_), ?_, O82_2.sel [4, 2, 3, 1, 0] (by decide)⟩
  ·
   unfold lineO; rw [if_pos hgp]
  unfold lineS; rw [if_pos hgp]; rfl
 have H83 := H12.subst_ (d := 15) (b := false) rfl hb15
 clear H12
 (try simp only [Bool.not_eq_true] at hb15)
 have hgp : ¬ hpB l grpB = true := fun h_ => (by have h2_ := h_.symm.trans hb15; cases h2_)
 refine gS hK4 ?_
 refine gR fun K84 hK84 => ?_
 refine Vm H83 fun _ H86 => ?_
 clear H83
 refine Wk H86 Tryd.func52 rfl (ar_cons (H86.ev rfl) (ar_cons (ev_c _ _) ar_nil)) (cut_calls l (⟨#[58, 32]⟩ : ByteArray) (by omega) _ (hL.own O13)) ?_
 rintro e87 w88 ⟨rfl, hb89⟩
 refine ⟨_, rfl, fun _ H91 => ?_⟩
 have O92 := O13.after hb89
 clear H86 O13 hb89
 refine Vm H91 fun _ H95 => ?_
 refine Vx H95 fun _ H97 => ?_
 refine Vx H97 fun _ H99 => ?_
 refine Vx H99 fun _ H101 => ?_
 refine Va H101 fun _ H103 => ?_
 refine Va H103 fun _ H105 => ?_
 refine Va H105 fun _ H107 => ?_
 refine gE hK84 ?_
 refine gR fun K108 hK108 => ?_
 refine Vm H107 fun _ H110 => ?_
 clear H91 H95 H97 H99 H101 H103 H105 H107
 refine Wk H110 Tryd.func53 rfl (ar_cons (H110.ev rfl) ar_nil) (vp_calls (cuA l (⟨#[58, 32]⟩ : ByteArray)) _) ?_
 rintro e111 w112 ⟨rfl, hb113⟩
 refine ⟨_, rfl, fun _ H115 => ?_⟩
 have O116 := O92.after hb113
 clear H110 O92 hb113
 refine Va H115 fun _ H119 => ?_
 refine gE hK108 ?_
 refine gR fun K120 hK120 => ?_
 refine Vm H119 fun _ H122 => ?_
 clear H115 H119
 refine Wk H122 Tryd.func50 rfl (ar_cons (H122.ev rfl) ar_nil) (rd_calls (cuB l (⟨#[58, 32]⟩ : ByteArray)) (by have h_ := cuB_size l (⟨#[58, 32]⟩ : ByteArray); omega) _) ?_
 rintro e123 w124 ⟨rfl, hb125⟩
 refine ⟨_, rfl, fun _ H127 => ?_⟩
 have O128 := O116.after hb125
 clear H122 O116 hb125
 refine Vm H127 fun _ H131 => ?_
 refine Vx H131 fun _ H133 => ?_
 refine Vx H133 fun _ H135 => ?_
 refine Va H135 fun _ H137 => ?_
 refine Va H137 fun _ H139 => ?_
 refine gE hK120 ?_
 refine gw_seq fun K140 hK140 => ?_
 refine gR fun K141 hK141 => ?_
 refine Vm H139 fun _ H143 => ?_
 refine V H143 (op_not rfl (H143.ev rfl)) fun _ H145 => ?_
 refine Vm H145 fun _ H147 => ?_
 clear H127 H131 H133 H135 H137 H139 H143 H145
 refine gw_evG H147 rfl rfl rfl rfl (on_f _) rfl (by decide) (fun h_ => (op_move rfl (H147.ev rfl))) ?_
 intro _ H149; clear H147
 refine gw_evG H149 rfl rfl rfl rfl (on_f _) rfl (by decide) (fun h_ => (op_eqi rfl (ev_gv (H149.ev rfl) h_) (ev_c _ _))) ?_
 intro _ H151; clear H149
 refine V H151 (op_pick_or rfl (H151.ev rfl) (ev_c _ _) (fun hp_ => (ev_gv (H151.ev rfl) (not_t hp_)))) fun _ H153 => ?_
 refine Vm H153 fun _ H155 => ?_
 clear H151 H153
 refine gw_evG H155 rfl rfl rfl rfl (on_f _) rfl (by decide) (fun h_ => (op_move rfl (H155.ev rfl))) ?_
 intro _ H157; clear H155
 refine gw_evG H157 rfl rfl rfl rfl (on_f _) rfl (by decide) (fun h_ => (op_not rfl (ev_gv (H157.ev rfl) h_))) ?_
 intro _ H159; clear H157
 refine V H159 (op_pick_or rfl (H159.ev rfl) (ev_c _ _) (fun hp_ => (ev_gv (H159.ev rfl) (not_t hp_)))) fun _ H161 => ?_
 refine Vm H161 fun _ H163 => ?_
 clear H159 H161
 refine gw_evG H163 rfl rfl rfl rfl (on_f _) rfl (by decide) (fun h_ => (op_move rfl (H163.ev rfl))) ?_
 intro _ H165; clear H163
 refine gw_evG H165 rfl rfl rfl rfl (on_f _) rfl (by decide) (fun h_ => (op_nil rfl (ev_gv (H165.ev rfl) h_))) ?_
 intro _ H167; clear H165
 refine gw_evG H167 rfl rfl rfl rfl (on_f _) rfl (by decide) (fun h_ => (op_field (gwfld24_2 _ _) rfl (ev_gv (H167.ev rfl) h_))) ?_
 intro _ H169; clear H167
 refine gw_evG H169 rfl rfl rfl rfl (on_f _) rfl (by decide) (fun h_ => (op_load1 gwagg22 rfl (ev_gv (H169.ev rfl) h_) (blk_at (O128.get 1 rfl) rfl))) ?_
 intro _ H171; clear H169
 refine gw_evG H171 rfl rfl rfl rfl (on_f _) rfl (by decide) (fun h_ => (op_len Tryd.underlying22 rfl (ev_gv (H171.ev rfl) h_))) ?_
 intro _ H173; clear H171
 refine gw_evG H173 rfl rfl rfl rfl (on_f _) rfl (by decide) (fun h_ => (op_eqi rfl (ev_gv (H173.ev rfl) h_) (ev_c _ _))) ?_
 intro _ H175; clear H173
 refine V H175 (op_pick_or rfl (H175.ev rfl) (ev_c _ _) (fun hp_ => (ev_gv (H175.ev rfl) (not_t hp_)))) fun _ H177 => ?_
 clear H175
 have H178 := H177.lit (b := true) (by simp)
 clear H177
 refine gE hK141 ?_
 refine gw_cond H178 rfl (fun hb179 => ?_) (fun hb179 => ?_)
 rotate_left
 ·
  cases hb179
 refine gR fun K180 hK180 => ?_
 refine Vc H178 fun _ H182 => ?_
 refine gE hK180 ?_
 refine wp_ret ?_
 clear H178
 refine gw_thr ?_
 refine gw_ret1 H182 rfl rfl ?_
 have O183_1 := O128.row_nil KR 49 w0.heap.size
 have hrO : resO ([] : List PP) l = false := by unfold resO; simp
 refine ⟨⟨A, c, [], [], none, [], none, 0, Sr, Sd, fun _ => False⟩, ?_, fun _ => ⟨rfl, rfl, rfl⟩, ?_, O183_1.sel [1, 2, 3, 4, 0] (by decide)⟩
 ·
  unfold lineO; rw [if_neg hgp, hrO]
 unfold lineS; rw [if_neg hgp, if_neg (by rw [hrO]; decide)]; rfl
theorem line_1 (w0 : World) (R : Chunk) (gs : Nat) (su bo l : ByteArray) (A : Option Addr) (c : Nat) (Sr Sd : Nat → Prop) (w : World) (Wd : List W2) (qs : List PP) (g0 : ByteArray) (xs : List RS) (A2 : Option Addr) (c2 : Nat) (Sl : Nat → Prop) (hl : l.size ≤ 1000000000) (hL : LaidW w0) (hWl : (Wd ++ [(⟨g0, ⟨A2, xs.length, c2⟩⟩ : W2)]).length ≤ 1000000000) (hxl : xs.length ≤ 1000000000) (HO : Own w0 w [R, Bk gs [.string su, .string bo, .slice A ((Wd ++ [(⟨g0, ⟨A2, xs.length, c2⟩⟩ : W2)]).length) c] 24, Chunk.row kW 46 w0.heap.size Sr (.slice A ((Wd ++ [(⟨g0, ⟨A2, xs.length, c2⟩⟩ : W2)]).length) c) (Wd ++ [(⟨g0, ⟨A2, xs.length, c2⟩⟩ : W2)]), Chunk.dn w0.heap.size Sd Wd qs, Chunk.row KR 49 w0.heap.size Sl (.slice A2 xs.length c2) xs]) :
    Calls Tryd.prog 34 #[.pointer (some ⟨gs, 0, none⟩), .string l] w fun e w' => ∃ X : SmX, e = .returned (.bool (lineO (qs ++ [⟨g0, xs⟩]) l)) ∧ X.ok ∧ X.ps = lineS (qs ++ [⟨g0, xs⟩]) l ∧ Own w0 w' (R :: smL w0.heap.size gs su bo X) := by
 refine gw_startO (N := 84) (vs := [.pointer (some ⟨gs, 0, none⟩), .string l]) Tryd.func34 rfl rfl (by simp) fun a HF => ?_
 refine gR fun K1 hK1 => ?_
 refine Vc HF ?_
 intro _ H3; clear HF
 refine gE hK1 ?_
 refine gw_seq fun K4 hK4 => ?_
 refine gR fun K5 hK5 => ?_
 refine Vm H3 fun _ H7 => ?_
 clear H3
 refine Wk H7 Tryd.func33 rfl (ar_cons (H7.ev rfl) (ar_cons (ev_c _ _) ar_nil)) (hp_calls l (⟨#[103, 114, 111, 117, 112, 32]⟩ : ByteArray) _) ?_
 rintro e8 w9 ⟨rfl, hb10⟩
 refine ⟨_, rfl, fun _ H12 => ?_⟩
 have O13 := HO.after hb10
 clear H7 HO hb10
 refine gE hK5 ?_
 refine gw_cond H12 rfl (fun hb15 => ?_) (fun hb15 => ?_)
 ·
  have H16 := H12.subst_ (d := 15) (b := true) rfl hb15
  clear H12
  (try simp only [Bool.not_eq_true] at hb15)
  have hgp := hb15
  refine gR fun K17 hK17 => ?_
  refine gw_new H16 O13 (want_none rfl) rfl (by decide) (op_alloc gwzer46 rfl) ?_
  intro g18 _ w20 H21 O22; clear H16 O13
  have O23 : Own w0 w20 [Bk g18 [.string (⟨#[]⟩ : ByteArray), .slice none 0 0] 46, R, Bk gs [.string su, .string bo, .slice A ((Wd ++ [(⟨g0, ⟨A2, xs.length, c2⟩⟩ : W2)]).length) c] 24, Chunk.row kW 46 w0.heap.size Sr (.slice A ((Wd ++ [(⟨g0, ⟨A2, xs.length, c2⟩⟩ : W2)]).length) c) (Wd ++ [(⟨g0, ⟨A2, xs.length, c2⟩⟩ : W2)]), Chunk.dn w0.heap.size Sd Wd qs, Chunk.row KR 49 w0.heap.size Sl (.slice A2 xs.length c2) xs] := O22
  clear O22
  refine gE hK17 ?_
  refine gR fun K24 hK24 => ?_
  refine Vm H21 fun _ H26 => ?_
  refine Vf H26 (gwfld46_0 _ _) fun _ H28 => ?_
  clear H21 H26
  have O35 : Own w0 _ [(Chunk.all [R, Bk gs [.string su, .string bo, .slice A ((Wd ++ [(⟨g0, ⟨A2, xs.length, c2⟩⟩ : W2)]).length) c] 24, Chunk.row kW 46 w0.heap.size Sr (.slice A ((Wd ++ [(⟨g0, ⟨A2, xs.length, c2⟩⟩ : W2)]).length) c) (Wd ++ [(⟨g0, ⟨A2, xs.length, c2⟩⟩ : W2)]), Chunk.dn w0.heap.size Sd Wd qs, Chunk.row KR 49 w0.heap.size Sl (.slice A2 xs.length c2) xs]), Bk g18 [.string (⟨#[]⟩ : ByteArray), .slice none 0 0] 46] := Own.bundle (O23.sel [1, 2, 3, 4, 5, 0] (by decide))
  refine Wk H28 Tryd.func32 rfl (ar_cons (H28.ev rfl) (ar_cons (ev_c _ _) (ar_cons (H28.ev rfl) ar_nil))) (named_2 w0 (Chunk.all [R, Bk gs [.string su, .string bo, .slice A ((Wd ++ [(⟨g0, ⟨A2, xs.length, c2⟩⟩ : W2)]).length) c] 24, Chunk.row kW 46 w0.heap.size Sr (.slice A ((Wd ++ [(⟨g0, ⟨A2, xs.length, c2⟩⟩ : W2)]).length) c) (Wd ++ [(⟨g0, ⟨A2, xs.length, c2⟩⟩ : W2)]), Chunk.dn w0.heap.size Sd Wd qs, Chunk.row KR 49 w0.heap.size Sl (.slice A2 xs.length c2) xs]) g18 l (⟨#[103, 114, 111, 117, 112, 32]⟩ : ByteArray) (⟨#[]⟩ : ByteArray) (.slice none 0 0) _ (by omega) O35) ?_
  rintro e29 w30 ⟨rfl, hb31⟩
  refine ⟨_, rfl, fun _ H33 => ?_⟩
  have O34 : Own w0 w30 [R, Bk gs [.string su, .string bo, .slice A ((Wd ++ [(⟨g0, ⟨A2, xs.length, c2⟩⟩ : W2)]).length) c] 24, Chunk.row kW 46 w0.heap.size Sr (.slice A ((Wd ++ [(⟨g0, ⟨A2, xs.length, c2⟩⟩ : W2)]).length) c) (Wd ++ [(⟨g0, ⟨A2, xs.length, c2⟩⟩ : W2)]), Chunk.dn w0.heap.size Sd Wd qs, Chunk.row KR 49 w0.heap.size Sl (.slice A2 xs.length c2) xs, Bk g18 [.string (nmB l (⟨#[103, 114, 111, 117, 112, 32]⟩ : ByteArray)), .slice none 0 0] 46] := Own.unbundle (hb31.sel [0, 1] (by decide))
  clear O35
  clear H28 O23 hb31
  refine Va H33 fun _ H38 => ?_
  refine gE hK24 ?_
  refine gw_seq fun K39 hK39 => ?_
  clear H33
  refine gx_draw (M := [R, Bk gs [.string su, .string bo, .slice A ((Wd ++ [(⟨g0, ⟨A2, xs.length, c2⟩⟩ : W2)]).length) c] 24, Chunk.dn w0.heap.size Sd Wd qs, Chunk.row KR 49 w0.heap.size Sl (.slice A2 xs.length c2) xs, Bk g18 [.string (nmB l (⟨#[103, 114, 111, 117, 112, 32]⟩ : ByteArray)), .slice none 0 0] 46]) (fun j_ => j_ == 10) O34 (by kernel_rfl) fun w40 O41 => ?_
  clear O34
  refine gx_take 0 rfl (by kernel_rfl) H38 (by exact O41.sel [0, 1, 3, 4, 5] (by decide)) (want_none rfl) rfl (by decide) (fun wq HO => (op_move rfl (H38.ev rfl))) ?_
  intro _ H43; clear H38
  refine gx_take 1 rfl (by kernel_rfl) H43 (by exact O41.sel [0, 1, 3, 4, 5] (by decide)) (want_none rfl) rfl (by decide) (fun wq HO => (op_move rfl (H43.ev rfl))) ?_
  intro _ H45; clear H43
  refine gx_take 2 rfl (by kernel_rfl) H45 (by exact O41.sel [0, 1, 3, 4, 5] (by decide)) (want_none rfl) rfl (by decide) (fun wq HO => (op_nil rfl (H45.ev rfl))) ?_
  intro _ H47; clear H45
  refine gx_take 3 rfl (by kernel_rfl) H47 (by exact O41.sel [0, 1, 3, 4, 5] (by decide)) (want_none rfl) rfl (by decide) (fun wq HO => (op_field (gwfld24_2 _ _) rfl (H47.ev rfl))) ?_
  intro _ H49; clear H47
  refine gx_take 4 rfl (by kernel_rfl) H49 (by exact O41.sel [0, 1, 3, 4, 5] (by decide)) (want_none rfl) rfl (by decide) (fun wq HO => (op_load1 gwagg22 rfl (H49.ev rfl) (blk_at (HO.get 1 rfl) rfl))) ?_
  intro _ H51; clear H49
  refine gx_take 5 rfl (by kernel_rfl) H51 (by exact O41.sel [0, 1, 3, 4, 5] (by decide)) (want_none rfl) rfl (by decide) (fun wq HO => (op_loadn gwagg46 gwsiz46 rfl (H51.ev rfl) (HO.get 4 rfl) rfl rfl)) ?_
  intro _ H53; clear H51
  refine gx_step 6 rfl (by kernel_rfl) ?_
  refine gw_news (O := .cells #[.string (nmB l (⟨#[103, 114, 111, 117, 112, 32]⟩ : ByteArray)), .slice none 0 0] 46 (0, 0)) (n := 1) H53 O41 (want_none rfl) rfl (by decide) (op_bslice (by kernel_rfl) rfl (pt_cons (H53.ev rfl) pt_nil)) ?_
  intro g54 _ w56 H57 O58; clear H53 O41
  have O59 : Own w0 w56 [Bk g54 [.string (nmB l (⟨#[103, 114, 111, 117, 112, 32]⟩ : ByteArray)), .slice none 0 0] 46, R, Bk gs [.string su, .string bo, .slice A ((Wd ++ [(⟨g0, ⟨A2, xs.length, c2⟩⟩ : W2)]).length) c] 24, Chunk.row kW 46 w0.heap.size Sr (.slice A ((Wd ++ [(⟨g0, ⟨A2, xs.length, c2⟩⟩ : W2)]).length) c) (Wd ++ [(⟨g0, ⟨A2, xs.length, c2⟩⟩ : W2)]), Chunk.dn w0.heap.size Sd Wd qs, Chunk.row KR 49 w0.heap.size Sl (.slice A2 xs.length c2) xs, Bk g18 [.string (nmB l (⟨#[103, 114, 111, 117, 112, 32]⟩ : ByteArray)), .slice none 0 0] 46] := O58
  clear O58
  refine gx_on (i := 6) (B := (fun j_ => j_ == 10)) (fun _ => (by exact O59.sel [1, 2, 4, 5, 6] (by decide))) ?_
  refine gx_step 7 rfl (by kernel_rfl) ?_
  have O60 : Own w0 _ [Chunk.row kW 46 w0.heap.size Sr (.slice A ((Wd ++ [(⟨g0, ⟨A2, xs.length, c2⟩⟩ : W2)]).length) c) (Wd ++ [(⟨g0, ⟨A2, xs.length, c2⟩⟩ : W2)]), Chunk.void, Bk g54 [.string (nmB l (⟨#[103, 114, 111, 117, 112, 32]⟩ : ByteArray)), .slice none 0 0] 46, R, Bk gs [.string su, .string bo, .slice A ((Wd ++ [(⟨g0, ⟨A2, xs.length, c2⟩⟩ : W2)]).length) c] 24, Chunk.dn w0.heap.size Sd Wd qs, Chunk.row KR 49 w0.heap.size Sl (.slice A2 xs.length c2) xs, Bk g18 [.string (nmB l (⟨#[103, 114, 111, 117, 112, 32]⟩ : ByteArray)), .slice none 0 0] 46] := O59.void.sel [4, 0, 1, 2, 3, 5, 6, 7] (by decide)
  refine gw_append1 kW 0 (p := (⟨(nmB l (⟨#[103, 114, 111, 117, 112, 32]⟩ : ByteArray)), ⟨none, 0, 0⟩⟩ : W2)) (cs := [.string (nmB l (⟨#[103, 114, 111, 117, 112, 32]⟩ : ByteArray)), .slice none 0 0]) H57 O60 (want_none rfl) rfl (by decide) rfl Tryd.underlying22 gwinfo46 rfl (by decide) (by decide) rfl (H57.ev rfl) (H57.ev rfl) (fun w_ h_ => kW_mkM w_ _ _ (⟨(nmB l (⟨#[103, 114, 111, 117, 112, 32]⟩ : ByteArray)), ⟨none, 0, 0⟩⟩ : W2) ) O60.below.size (by (try simp at hWl); simp; omega) ?_
  intro A61 c62 S63 _ w65 H66 O67; clear H57 O59 O60
  have O68 : Own w0 w65 [Chunk.row kW 46 w0.heap.size S63 (.slice A61 (((Wd ++ [(⟨g0, ⟨A2, xs.length, c2⟩⟩ : W2)]) ++ [(⟨(nmB l (⟨#[103, 114, 111, 117, 112, 32]⟩ : ByteArray)), ⟨none, 0, 0⟩⟩ : W2)]).length) c62) ((Wd ++ [(⟨g0, ⟨A2, xs.length, c2⟩⟩ : W2)]) ++ [(⟨(nmB l (⟨#[103, 114, 111, 117, 112, 32]⟩ : ByteArray)), ⟨none, 0, 0⟩⟩ : W2)]), Bk g54 [.string (nmB l (⟨#[103, 114, 111, 117, 112, 32]⟩ : ByteArray)), .slice none 0 0] 46, R, Bk gs [.string su, .string bo, .slice A ((Wd ++ [(⟨g0, ⟨A2, xs.length, c2⟩⟩ : W2)]).length) c] 24, Chunk.dn w0.heap.size Sd Wd qs, Chunk.row KR 49 w0.heap.size Sl (.slice A2 xs.length c2) xs, Bk g18 [.string (nmB l (⟨#[103, 114, 111, 117, 112, 32]⟩ : ByteArray)), .slice none 0 0] 46] := O67
  clear O67
  refine gx_on (i := 7) (B := (fun j_ => j_ == 10)) (fun _ => (by exact O68.sel [2, 3, 4, 5, 6] (by decide))) ?_
  refine gx_step 8 rfl (by kernel_rfl) ?_
  refine Vz H66 fun _ H70 => ?_
  clear H66
  refine gx_on (i := 8) (B := (fun j_ => j_ == 10)) (fun _ => (by exact O68.sel [2, 3, 4, 5, 6] (by decide))) ?_
  refine gx_take 9 rfl (by kernel_rfl) H70 (by exact O68.sel [2, 3, 4, 5, 6] (by decide)) (want_none rfl) rfl (by decide) (fun wq HO => (op_field (gwfld24_2 _ _) rfl (H70.ev rfl))) ?_
  intro _ H72; clear H70
  refine gx_step 10 rfl (by kernel_rfl) ?_
  refine gw_set 3 H72 O68 rfl (want_none rfl) rfl (op_store1 gwsiz22 rfl (H72.ev rfl) (H72.ev rfl) rfl (blk_at (O68.get 3 rfl) rfl) (blkf (O68.get 3 rfl))) ?_
  intro _ w75 H74 O76; clear H72 O68
  refine gx_on (i := 10) (B := (fun j_ => j_ == 10)) (fun h_ => by cases h_) ?_
  refine gx_done (by kernel_rfl) ?_
  refine gw_nx (hK39 _ _ ?_)
  refine gR fun K77 hK77 => ?_
  refine Vm H74 fun _ H79 => ?_
  refine Va H79 fun _ H81 => ?_
  refine gE hK77 ?_
  refine wp_ret ?_
  clear H74 H79
  refine gw_thr ?_
  refine gw_ret1 H81 rfl rfl ?_
  have O82_1 := (O76.sel [5, 4, 3, 0, 2] (by decide)).dn_push (gn := g0)
  have O82_2 := O82_1.row_nil KR 49 w0.heap.size
  refine ⟨⟨A61, c62, _, _, some _, [], none, 0, S63, _, fun _ => False⟩, ?_, fun h_ => (by cases h_), ?_, O82_2.sel [4, 2, 3, 1, 0] (by decide)⟩
  ·
   unfold lineO; rw [if_pos hgp]
  unfold lineS; rw [if_pos hgp]; rfl
 have H83 := H12.subst_ (d := 15) (b := false) rfl hb15
 clear H12
 (try simp only [Bool.not_eq_true] at hb15)
 have hgp : ¬ hpB l grpB = true := fun h_ => (by have h2_ := h_.symm.trans hb15; cases h2_)
 refine gS hK4 ?_
 refine gR fun K84 hK84 => ?_
 refine Vm H83 fun _ H86 => ?_
 clear H83
 refine Wk H86 Tryd.func52 rfl (ar_cons (H86.ev rfl) (ar_cons (ev_c _ _) ar_nil)) (cut_calls l (⟨#[58, 32]⟩ : ByteArray) (by omega) _ (hL.own O13)) ?_
 rintro e87 w88 ⟨rfl, hb89⟩
 refine ⟨_, rfl, fun _ H91 => ?_⟩
 have O92 := O13.after hb89
 clear H86 O13 hb89
 refine Vm H91 fun _ H95 => ?_
 refine Vx H95 fun _ H97 => ?_
 refine Vx H97 fun _ H99 => ?_
 refine Vx H99 fun _ H101 => ?_
 refine Va H101 fun _ H103 => ?_
 refine Va H103 fun _ H105 => ?_
 refine Va H105 fun _ H107 => ?_
 refine gE hK84 ?_
 refine gR fun K108 hK108 => ?_
 refine Vm H107 fun _ H110 => ?_
 clear H91 H95 H97 H99 H101 H103 H105 H107
 refine Wk H110 Tryd.func53 rfl (ar_cons (H110.ev rfl) ar_nil) (vp_calls (cuA l (⟨#[58, 32]⟩ : ByteArray)) _) ?_
 rintro e111 w112 ⟨rfl, hb113⟩
 refine ⟨_, rfl, fun _ H115 => ?_⟩
 have O116 := O92.after hb113
 clear H110 O92 hb113
 refine Va H115 fun _ H119 => ?_
 refine gE hK108 ?_
 refine gR fun K120 hK120 => ?_
 refine Vm H119 fun _ H122 => ?_
 clear H115 H119
 refine Wk H122 Tryd.func50 rfl (ar_cons (H122.ev rfl) ar_nil) (rd_calls (cuB l (⟨#[58, 32]⟩ : ByteArray)) (by have h_ := cuB_size l (⟨#[58, 32]⟩ : ByteArray); omega) _) ?_
 rintro e123 w124 ⟨rfl, hb125⟩
 refine ⟨_, rfl, fun _ H127 => ?_⟩
 have O128 := O116.after hb125
 clear H122 O116 hb125
 refine Vm H127 fun _ H131 => ?_
 refine Vx H131 fun _ H133 => ?_
 refine Vx H133 fun _ H135 => ?_
 refine Va H135 fun _ H137 => ?_
 refine Va H137 fun _ H139 => ?_
 refine gE hK120 ?_
 refine gw_seq fun K140 hK140 => ?_
 refine gR fun K141 hK141 => ?_
 refine Vm H139 fun _ H143 => ?_
 refine V H143 (op_not rfl (H143.ev rfl)) fun _ H145 => ?_
 refine Vm H145 fun _ H147 => ?_
 clear H127 H131 H133 H135 H137 H139 H143 H145
 refine gw_evG H147 rfl rfl rfl rfl (on_f _) rfl (by decide) (fun h_ => (op_move rfl (H147.ev rfl))) ?_
 intro _ H149; clear H147
 refine gw_evG H149 rfl rfl rfl rfl (on_f _) rfl (by decide) (fun h_ => (op_eqi rfl (ev_gv (H149.ev rfl) h_) (ev_c _ _))) ?_
 intro _ H151; clear H149
 refine V H151 (op_pick_or rfl (H151.ev rfl) (ev_c _ _) (fun hp_ => (ev_gv (H151.ev rfl) (not_t hp_)))) fun _ H153 => ?_
 refine Vm H153 fun _ H155 => ?_
 clear H151 H153
 refine gw_evG H155 rfl rfl rfl rfl (on_f _) rfl (by decide) (fun h_ => (op_move rfl (H155.ev rfl))) ?_
 intro _ H157; clear H155
 refine gw_evG H157 rfl rfl rfl rfl (on_f _) rfl (by decide) (fun h_ => (op_not rfl (ev_gv (H157.ev rfl) h_))) ?_
 intro _ H159; clear H157
 refine V H159 (op_pick_or rfl (H159.ev rfl) (ev_c _ _) (fun hp_ => (ev_gv (H159.ev rfl) (not_t hp_)))) fun _ H161 => ?_
 refine Vm H161 fun _ H163 => ?_
 clear H159 H161
 refine gw_evG H163 rfl rfl rfl rfl (on_f _) rfl (by decide) (fun h_ => (op_move rfl (H163.ev rfl))) ?_
 intro _ H165; clear H163
 refine gw_evG H165 rfl rfl rfl rfl (on_f _) rfl (by decide) (fun h_ => (op_nil rfl (ev_gv (H165.ev rfl) h_))) ?_
 intro _ H167; clear H165
 refine gw_evG H167 rfl rfl rfl rfl (on_f _) rfl (by decide) (fun h_ => (op_field (gwfld24_2 _ _) rfl (ev_gv (H167.ev rfl) h_))) ?_
 intro _ H169; clear H167
 refine gw_evG H169 rfl rfl rfl rfl (on_f _) rfl (by decide) (fun h_ => (op_load1 gwagg22 rfl (ev_gv (H169.ev rfl) h_) (blk_at (O128.get 1 rfl) rfl))) ?_
 intro _ H171; clear H169
 refine gw_evG H171 rfl rfl rfl rfl (on_f _) rfl (by decide) (fun h_ => (op_len Tryd.underlying22 rfl (ev_gv (H171.ev rfl) h_))) ?_
 intro _ H173; clear H171
 refine gw_evG H173 rfl rfl rfl rfl (on_f _) rfl (by decide) (fun h_ => (op_eqi rfl (ev_gv (H173.ev rfl) h_) (ev_c _ _))) ?_
 intro _ H175; clear H173
 refine V H175 (op_pick_or rfl (H175.ev rfl) (ev_c _ _) (fun hp_ => (ev_gv (H175.ev rfl) (not_t hp_)))) fun _ H177 => ?_
 refine gE hK141 ?_
 clear H175
 refine gw_cond H177 rfl (fun hb178 => ?_) (fun hb178 => ?_)
 ·
  have H179 := H177.subst_ (d := 60) (b := true) rfl hb178
  clear H177
  (try simp only [Bool.and_eq_true, Bool.and_eq_false_iff, Bool.not_and, Bool.or_eq_true, Bool.or_eq_false_iff, Bool.not_or, Bool.not_not, Bool.not_eq_true', Bool.not_eq_false', Bool.not_eq_true, Bool.not_eq_false, decide_eq_true_eq, decide_eq_false_iff_not] at hb178)
  have hno : (cuO l sepB && !decide (vpB (cuA l sepB) = 0) && (readN (cuB l sepB)).2) = false := by have hb_ := hb178; revert hb_; cases cuO l sepB <;> cases (readN (cuB l sepB)).2 <;> by_cases hv_ : vpB (cuA l sepB) = 0 <;> simp [hv_] <;> omega
  refine gR fun K180 hK180 => ?_
  refine Vc H179 fun _ H182 => ?_
  refine gE hK180 ?_
  refine wp_ret ?_
  clear H179
  refine gw_thr ?_
  refine gw_ret1 H182 rfl rfl ?_
  have hrO : resO (qs ++ [⟨g0, xs⟩]) l = false := by unfold resO; rw [snoc_ne]; simp only [Bool.not_false, Bool.and_true]; exact hno
  refine ⟨⟨A, c, Wd, qs, some g0, xs, A2, c2, Sr, Sd, Sl⟩, ?_, fun h_ => (by cases h_), ?_, O128.sel [0, 1, 2, 3, 4] (by decide)⟩
  ·
   unfold lineO; rw [if_neg hgp, hrO]
  unfold lineS; rw [if_neg hgp, if_neg (by rw [hrO]; decide)]; rfl
 have H184 := H177.subst_ (d := 60) (b := false) rfl hb178
 clear H177
 (try simp only [Bool.and_eq_true, Bool.and_eq_false_iff, Bool.not_and, Bool.or_eq_true, Bool.or_eq_false_iff, Bool.not_or, Bool.not_not, Bool.not_eq_true', Bool.not_eq_false', Bool.not_eq_true, Bool.not_eq_false, decide_eq_true_eq, decide_eq_false_iff_not] at hb178)
 have hyes : (cuO l sepB && !decide (vpB (cuA l sepB) = 0) && (readN (cuB l sepB)).2) = true := by have hb_ := hb178; revert hb_; cases cuO l sepB <;> cases (readN (cuB l sepB)).2 <;> by_cases hv_ : vpB (cuA l sepB) = 0 <;> simp [hv_] <;> omega
 refine gS hK140 ?_
 refine gw_seq fun K185 hK185 => ?_
 refine gw_drawB O128 (by kernel_rfl) (by kernel_rfl) fun w186 O187 => ?_
 clear O128
 refine Vn H184 (op_move rfl (H184.ev rfl)) fun _ H189 => ?_
 refine Vn H189 (op_nil rfl (H189.ev rfl)) fun _ H191 => ?_
 refine Vn H191 (op_field (gwfld24_2 _ _) rfl (H191.ev rfl)) fun _ H193 => ?_
 refine Vq H193 (fun wq hq => have HO := O187.after hq; op_load1 gwagg22 rfl (H193.ev rfl) (blk_at (HO.get 1 rfl) rfl)) fun _ H195 => ?_
 refine Vn H195 (op_move rfl (H195.ev rfl)) fun _ H197 => ?_
 refine Vn H197 (op_nil rfl (H197.ev rfl)) fun _ H199 => ?_
 refine Vn H199 (op_field (gwfld24_2 _ _) rfl (H199.ev rfl)) fun _ H201 => ?_
 refine Vq H201 (fun wq hq => have HO := O187.after hq; op_load1 gwagg22 rfl (H201.ev rfl) (blk_at (HO.get 1 rfl) rfl)) fun _ H203 => ?_
 clear H184 H189 H191 H193 H195 H197 H199 H201
 refine Vn H203 (op_len Tryd.underlying22 rfl (H203.ev rfl)) fun _ H205 => ?_
 refine Vn H205 (op_sub rfl (H205.ev rfl) (ev_c _ _) (by omega)) fun _ H207 => ?_
 clear H203 H205
 obtain ⟨ad208, hA209⟩ := row_head (O187.get 2 rfl) ((((Wd ++ [(⟨g0, ⟨A2, xs.length, c2⟩⟩ : W2)]).length) : Int) - 1) (by omega) (by omega)
 subst hA209
 refine Vn H207 (op_index Tryd.underlying22 gwsiz46 rfl (H207.ev rfl) (H207.ev rfl) rfl (⟨by omega, by omega⟩)) fun _ H212 => ?_
 refine Vn H212 (op_assign rfl (H212.ev rfl)) fun _ H214 => ?_
 clear H207 H212
 refine wpQuiet_nil ?_
 intro w215 hq
 have O216 := O187.after hq
 clear O187 hq
 refine gw_nx (hK185 _ _ ?_)
 refine gR fun K217 hK217 => ?_
 refine Vm H214 fun _ H219 => ?_
 refine Vm H219 fun _ H221 => ?_
 refine Vz H221 fun _ H223 => ?_
 refine V H223 (op_field (gwflda46_1 _) rfl (H223.ev rfl)) fun _ H225 => ?_
 refine V H225 (op_load1 gwagg44 rfl (H225.ev rfl) (((rowf_cells (z := zW) (O216.get 2 rfl) ((((Wd ++ [(⟨g0, ⟨A2, xs.length, c2⟩⟩ : W2)]).length) : Int) - 1) (by omega) (by omega) (fun _ _ h_ => kW_open h_)) 1 _ rfl))) fun _ H227 => ?_
 clear H214 H219 H221 H223 H225
 have H228 := H227.conv (v' := .slice A2 xs.length c2) (by rw [getD_last _ _ _ rfl])
 clear H227
 refine Vm H228 fun _ H230 => ?_
 refine Vm H230 fun _ H232 => ?_
 refine V H232 (op_build (cells := #[.string ((readN (cuB l (⟨#[58, 32]⟩ : ByteArray))).1), J (vpB (cuA l (⟨#[58, 32]⟩ : ByteArray)))]) rfl (pt_cons (H232.ev rfl) (pt_cons (H232.ev rfl) pt_nil)) (by kernel_rfl)) fun _ H234 => ?_
 clear H228 H230 H232
 refine gw_news (O := .cells #[.string ((readN (cuB l (⟨#[58, 32]⟩ : ByteArray))).1), J (vpB (cuA l (⟨#[58, 32]⟩ : ByteArray)))] 49 (0, 0)) (n := 1) H234 O216 (want_none rfl) rfl (by decide) (op_bslice (by kernel_rfl) rfl (pt_cons (H234.ev rfl) pt_nil)) ?_
 intro g235 _ w237 H238 O239; clear H234 O216
 have O240 : Own w0 w237 [Bk g235 [.string ((readN (cuB l (⟨#[58, 32]⟩ : ByteArray))).1), J (vpB (cuA l (⟨#[58, 32]⟩ : ByteArray)))] 49, R, Bk gs [.string su, .string bo, .slice (some ad208) ((Wd ++ [(⟨g0, ⟨A2, xs.length, c2⟩⟩ : W2)]).length) c] 24, Chunk.row kW 46 w0.heap.size Sr (.slice (some ad208) ((Wd ++ [(⟨g0, ⟨A2, xs.length, c2⟩⟩ : W2)]).length) c) (Wd ++ [(⟨g0, ⟨A2, xs.length, c2⟩⟩ : W2)]), Chunk.dn w0.heap.size Sd Wd qs, Chunk.row KR 49 w0.heap.size Sl (.slice A2 xs.length c2) xs] := O239
 clear O239
 have O241 : Own w0 _ [Chunk.row KR 49 w0.heap.size Sl (.slice A2 xs.length c2) xs, Chunk.void, Bk g235 [.string ((readN (cuB l (⟨#[58, 32]⟩ : ByteArray))).1), J (vpB (cuA l (⟨#[58, 32]⟩ : ByteArray)))] 49, R, Bk gs [.string su, .string bo, .slice (some ad208) ((Wd ++ [(⟨g0, ⟨A2, xs.length, c2⟩⟩ : W2)]).length) c] 24, Chunk.row kW 46 w0.heap.size Sr (.slice (some ad208) ((Wd ++ [(⟨g0, ⟨A2, xs.length, c2⟩⟩ : W2)]).length) c) (Wd ++ [(⟨g0, ⟨A2, xs.length, c2⟩⟩ : W2)]), Chunk.dn w0.heap.size Sd Wd qs] := O240.void.sel [6, 0, 1, 2, 3, 4, 5] (by decide)
 refine gw_append1 k49 0 (p := (⟨(readN (cuB l (⟨#[58, 32]⟩ : ByteArray))).1, vpB (cuA l (⟨#[58, 32]⟩ : ByteArray))⟩ : S49)) (cs := [.string ((readN (cuB l (⟨#[58, 32]⟩ : ByteArray))).1), J (vpB (cuA l (⟨#[58, 32]⟩ : ByteArray)))]) H238 O241 (want_none rfl) rfl (by decide) rfl Tryd.underlying44 gwinfo49 rfl (by decide) (by decide) rfl (H238.ev rfl) (H238.ev rfl) (fun w_ h_ => k49_mkM w_ _ _ (⟨(readN (cuB l (⟨#[58, 32]⟩ : ByteArray))).1, vpB (cuA l (⟨#[58, 32]⟩ : ByteArray))⟩ : S49) ) O241.below.size (by (try simp); omega) ?_
 intro A242 c243 S244 _ w246 H247 O248; clear H238 O240 O241
 have O249 : Own w0 w246 [Chunk.row KR 49 w0.heap.size S244 (.slice A242 ((xs ++ [(⟨(readN (cuB l (⟨#[58, 32]⟩ : ByteArray))).1, vpB (cuA l (⟨#[58, 32]⟩ : ByteArray))⟩ : S49)]).length) c243) (xs ++ [(⟨(readN (cuB l (⟨#[58, 32]⟩ : ByteArray))).1, vpB (cuA l (⟨#[58, 32]⟩ : ByteArray))⟩ : S49)]), Bk g235 [.string ((readN (cuB l (⟨#[58, 32]⟩ : ByteArray))).1), J (vpB (cuA l (⟨#[58, 32]⟩ : ByteArray)))] 49, R, Bk gs [.string su, .string bo, .slice (some ad208) ((Wd ++ [(⟨g0, ⟨A2, xs.length, c2⟩⟩ : W2)]).length) c] 24, Chunk.row kW 46 w0.heap.size Sr (.slice (some ad208) ((Wd ++ [(⟨g0, ⟨A2, xs.length, c2⟩⟩ : W2)]).length) c) (Wd ++ [(⟨g0, ⟨A2, xs.length, c2⟩⟩ : W2)]), Chunk.dn w0.heap.size Sd Wd qs] := O248
 clear O248
 refine Vz H247 fun _ H251 => ?_
 refine V H251 (op_field (gwflda46_1 _) rfl (H251.ev rfl)) fun _ H253 => ?_
 clear H247 H251
 refine gw_rowf flatW zW (⟨((Wd ++ [(⟨g0, ⟨A2, xs.length, c2⟩⟩ : W2)]).getD ((((Wd ++ [(⟨g0, ⟨A2, xs.length, c2⟩⟩ : W2)]).length) : Int) - 1).toNat zW).f0, ⟨A242, (xs ++ [(⟨(readN (cuB l (⟨#[58, 32]⟩ : ByteArray))).1, vpB (cuA l (⟨#[58, 32]⟩ : ByteArray))⟩ : S49)]).length, c243⟩⟩ : W2) 1 4 H253 O249 rfl (want_none rfl) rfl gwsiz44 (by omega) (by omega) (by show 1 < 2; decide) rfl (H253.ev rfl) (H253.ev rfl) rfl rfl ?_
 intro _ w256 H255 O257; clear H253 O249
 have O258 : Own w0 w256 [Chunk.row KR 49 w0.heap.size S244 (.slice A242 ((xs ++ [(⟨(readN (cuB l (⟨#[58, 32]⟩ : ByteArray))).1, vpB (cuA l (⟨#[58, 32]⟩ : ByteArray))⟩ : S49)]).length) c243) (xs ++ [(⟨(readN (cuB l (⟨#[58, 32]⟩ : ByteArray))).1, vpB (cuA l (⟨#[58, 32]⟩ : ByteArray))⟩ : S49)]), Bk g235 [.string ((readN (cuB l (⟨#[58, 32]⟩ : ByteArray))).1), J (vpB (cuA l (⟨#[58, 32]⟩ : ByteArray)))] 49, R, Bk gs [.string su, .string bo, .slice (some ad208) ((Wd ++ [(⟨g0, ⟨A2, xs.length, c2⟩⟩ : W2)]).length) c] 24, Chunk.row kW 46 w0.heap.size Sr (.slice (some ad208) ((Wd ++ [(⟨g0, ⟨A2, xs.length, c2⟩⟩ : W2)]).length) c) ((Wd ++ [(⟨g0, ⟨A2, xs.length, c2⟩⟩ : W2)]).set ((((Wd ++ [(⟨g0, ⟨A2, xs.length, c2⟩⟩ : W2)]).length) : Int) - 1).toNat (⟨((Wd ++ [(⟨g0, ⟨A2, xs.length, c2⟩⟩ : W2)]).getD ((((Wd ++ [(⟨g0, ⟨A2, xs.length, c2⟩⟩ : W2)]).length) : Int) - 1).toNat zW).f0, ⟨A242, (xs ++ [(⟨(readN (cuB l (⟨#[58, 32]⟩ : ByteArray))).1, vpB (cuA l (⟨#[58, 32]⟩ : ByteArray))⟩ : S49)]).length, c243⟩⟩ : W2)), Chunk.dn w0.heap.size Sd Wd qs] := O257
 clear O257
 refine gE hK217 ?_
 refine gR fun K259 hK259 => ?_
 refine Vc H255 fun _ H261 => ?_
 refine gE hK259 ?_
 refine wp_ret ?_
 clear H255
 refine gw_ret1 H261 rfl rfl ?_
 have O262_e := O258
 rw [getD_last _ _ _ rfl, set_last _ _ _ _ rfl] at O262_e
 have hle_ : (Wd ++ [(⟨g0, ⟨A2, xs.length, c2⟩⟩ : W2)]).length = (Wd ++ [(⟨g0, ⟨A242, (xs ++ [(⟨(readN (cuB l (⟨#[58, 32]⟩ : ByteArray))).1, vpB (cuA l (⟨#[58, 32]⟩ : ByteArray))⟩ : S49)]).length, c243⟩⟩ : W2)]).length := by simp
 rw [hle_] at O262_e
 have hrO : resO (qs ++ [⟨g0, xs⟩]) l = true := by unfold resO; rw [snoc_ne]; simp only [Bool.not_false, Bool.and_true]; exact hyes
 refine ⟨⟨(some ad208), c, Wd, qs, some g0, (xs ++ [(⟨(readN (cuB l (⟨#[58, 32]⟩ : ByteArray))).1, vpB (cuA l (⟨#[58, 32]⟩ : ByteArray))⟩ : S49)]), A242, c243, Sr, Sd, S244⟩, ?_, fun h_ => (by cases h_), ?_, O262_e.sel [2, 3, 4, 5, 0] (by decide)⟩
 ·
  unfold lineO; rw [if_neg hgp, hrO]
 unfold lineS; rw [if_neg hgp, if_pos hrO, addL_snoc]; rfl
end GLine_
export GLine_ (line_0 line_1)
end Go.Proofs.YtljmbgilcngfgaaDoor.PA
