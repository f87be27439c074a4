/- The row of the law GlobRanges: for every input the call returns true and leaves its arguments as they were. Printed by a program of this session. -/
/- What this claim uses of this session's own texts, put together by a program: PAx22 HGlobN GGlobR HOpen Ty25 StmtGlobRanges PureGlobRanges LawGlobRanges. -/
import Derived.Test.YtelbgmpeghhakaaKGlobRanges0
import Derived.Test.YtelbgmpeghhakaaProg
import Derived.Test.YtelbgmpeghhakaaRows
section
namespace Go.Proofs.Ytelbgmpeghhakaa.PA
open Go.RowKit Go.Proofs.YtelbgmpeghhakaaW.PrintWords Go.Proofs.YtelbgmpeghhakaaW.PrintLast Go.Proofs.YtelbgmpeghhakaaW.PrintMore
attribute [local go_sem] max2_int min2_int max_two min_two max_three min_three max_four min_four   -- for this text's walks alone
set_option linter.unusedVariables false
set_option linter.unusedSimpArgs false
attribute [local go_sem high] eqA25
mutual
def colloquyref03_Same.j0 : Nat → Bool → Int → List (S25) → List (S29) → Int → List (S25) → List (S29) → Option (Bool)
  | 0, _, _, _, _, _, _, _ => none
  | k + 1, x29, x110000, x110001, x110002, x111000, x111001, x111002 => if x29 = true then (some false) else (colloquyref03_Same.l0 k 0 x110000 x110001 x110002 x111000 x111001 x111002)
def colloquyref03_Same.l0 : Nat → Int → Int → List (S25) → List (S29) → Int → List (S25) → List (S29) → Option (Bool)
  | 0, _, _, _, _, _, _, _ => none
  | k + 1, x5, x110000, x110001, x110002, x111000, x111001, x111002 => if x5 < (x110001.length : Int) then (if 0 ≤ x5 then (if x5 < (x111001.length : Int) then (if (!(((rd_T25 x110001 x5).f0) == ((rd_T25 x111001 x5).f0)) || (!(((rd_T25 x110001 x5).f1) == ((rd_T25 x111001 x5).f1)))) = true then (some false) else (colloquyref03_Same.l0 k (wrap64 (x5 + 1)) x110000 x110001 x110002 x111000 x111001 x111002)) else (none)) else (none)) else (colloquyref03_Same.l1 k 0 x110000 x110001 x110002 x111000 x111001 x111002)
def colloquyref03_Same.l1 : Nat → Int → Int → List (S25) → List (S29) → Int → List (S25) → List (S29) → Option (Bool)
  | 0, _, _, _, _, _, _, _ => none
  | k + 1, x6, x110000, x110001, x110002, x111000, x111001, x111002 => if x6 < (x110002.length : Int) then (if 0 ≤ x6 then (if x6 < (x111002.length : Int) then ((colloquyref03_Same.f k ((rd_T29 x110002 x6).f0) ((rd_T29 x110002 x6).f1) ((rd_T29 x110002 x6).f2) ((rd_T29 x111002 x6).f0) ((rd_T29 x111002 x6).f1) ((rd_T29 x111002 x6).f2)).bind fun t115 => (if t115 = true then (colloquyref03_Same.l1 k (wrap64 (x6 + 1)) x110000 x110001 x110002 x111000 x111001 x111002) else (some false))) else (none)) else (none)) else (some true)
def colloquyref03_Same.f : Nat → Int → List (S25) → List (S29) → Int → List (S25) → List (S29) → Option (Bool)
  | 0, _, _, _, _, _, _ => none
  | k + 1, a0_0, l0_1, l0_2, a1_0, l1_1, l1_2 => if a0_0 = a1_0 then (if (l0_1.length : Int) = (l1_1.length : Int) then (colloquyref03_Same.j0 k ((l0_2.length : Int) != (l1_2.length : Int)) a0_0 l0_1 l0_2 a1_0 l1_1 l1_2) else (colloquyref03_Same.j0 k true a0_0 l0_1 l0_2 a1_0 l1_1 l1_2)) else (colloquyref03_Same.j0 k true a0_0 l0_1 l0_2 a1_0 l1_1 l1_2)
end
theorem colloquyref03_Same.mono_l : ∀ k, (∀ y0 y1 y2 y3 y4 y5, LeO (colloquyref03_Same.f k y0 y1 y2 y3 y4 y5) (colloquyref03_Same.f (k + 1) y0 y1 y2 y3 y4 y5)) ∧ (∀ y0 y1 y2 y3 y4 y5 y6, LeO (colloquyref03_Same.j0 k y0 y1 y2 y3 y4 y5 y6) (colloquyref03_Same.j0 (k + 1) y0 y1 y2 y3 y4 y5 y6)) ∧ (∀ y0 y1 y2 y3 y4 y5 y6, LeO (colloquyref03_Same.l0 k y0 y1 y2 y3 y4 y5 y6) (colloquyref03_Same.l0 (k + 1) y0 y1 y2 y3 y4 y5 y6)) ∧ (∀ y0 y1 y2 y3 y4 y5 y6, LeO (colloquyref03_Same.l1 k y0 y1 y2 y3 y4 y5 y6) (colloquyref03_Same.l1 (k + 1) y0 y1 y2 y3 y4 y5 y6))
  | 0 => ⟨fun _ _ _ _ _ _ r h => by simp [colloquyref03_Same.f] at h, fun _ _ _ _ _ _ _ r h => by simp [colloquyref03_Same.j0] at h, fun _ _ _ _ _ _ _ r h => by simp [colloquyref03_Same.l0] at h, fun _ _ _ _ _ _ _ r h => by simp [colloquyref03_Same.l1] at h⟩
  | k + 1 => by
    obtain ⟨ih0, ih1, ih2, ih3⟩ := colloquyref03_Same.mono_l k
    refine ⟨?_, ?_, ?_, ?_⟩
    · intro y0 y1 y2 y3 y4 y5
      unfold colloquyref03_Same.f
      repeat' first
      | (with_reducible exact ih0 _ _ _ _ _ _)
      | (with_reducible exact ih1 _ _ _ _ _ _ _)
      | (with_reducible exact ih2 _ _ _ _ _ _ _)
      | (with_reducible exact ih3 _ _ _ _ _ _ _)
      | (with_reducible exact LeO.refl _)
      | (with_reducible exact LeO.none _)
      | (with_reducible refine LeO.ite ?_ ?_)
      | (with_reducible refine LeO.bind ?_ (fun _ => ?_))
      | exact ih0 _ _ _ _ _ _
      | exact ih1 _ _ _ _ _ _ _
      | exact ih2 _ _ _ _ _ _ _
      | exact ih3 _ _ _ _ _ _ _
      | exact LeO.none _
      | refine LeO.ite ?_ ?_
      | refine LeO.bind ?_ (fun _ => ?_)
    · intro y0 y1 y2 y3 y4 y5 y6
      unfold colloquyref03_Same.j0
      repeat' first
      | (with_reducible exact ih0 _ _ _ _ _ _)
      | (with_reducible exact ih1 _ _ _ _ _ _ _)
      | (with_reducible exact ih2 _ _ _ _ _ _ _)
      | (with_reducible exact ih3 _ _ _ _ _ _ _)
      | (with_reducible exact LeO.refl _)
      | (with_reducible exact LeO.none _)
      | (with_reducible refine LeO.ite ?_ ?_)
      | (with_reducible refine LeO.bind ?_ (fun _ => ?_))
      | exact ih0 _ _ _ _ _ _
      | exact ih1 _ _ _ _ _ _ _
      | exact ih2 _ _ _ _ _ _ _
      | exact ih3 _ _ _ _ _ _ _
      | exact LeO.none _
      | refine LeO.ite ?_ ?_
      | refine LeO.bind ?_ (fun _ => ?_)
    · intro y0 y1 y2 y3 y4 y5 y6
      unfold colloquyref03_Same.l0
      repeat' first
      | (with_reducible exact ih0 _ _ _ _ _ _)
      | (with_reducible exact ih1 _ _ _ _ _ _ _)
      | (with_reducible exact ih2 _ _ _ _ _ _ _)
      | (with_reducible exact ih3 _ _ _ _ _ _ _)
      | (with_reducible exact LeO.refl _)
      | (with_reducible exact LeO.none _)
      | (with_reducible refine LeO.ite ?_ ?_)
      | (with_reducible refine LeO.bind ?_ (fun _ => ?_))
      | exact ih0 _ _ _ _ _ _
      | exact ih1 _ _ _ _ _ _ _
      | exact ih2 _ _ _ _ _ _ _
      | exact ih3 _ _ _ _ _ _ _
      | exact LeO.none _
      | refine LeO.ite ?_ ?_
      | refine LeO.bind ?_ (fun _ => ?_)
    · intro y0 y1 y2 y3 y4 y5 y6
      unfold colloquyref03_Same.l1
      repeat' first
      | (with_reducible exact ih0 _ _ _ _ _ _)
      | (with_reducible exact ih1 _ _ _ _ _ _ _)
      | (with_reducible exact ih2 _ _ _ _ _ _ _)
      | (with_reducible exact ih3 _ _ _ _ _ _ _)
      | (with_reducible exact LeO.refl _)
      | (with_reducible exact LeO.none _)
      | (with_reducible refine LeO.ite ?_ ?_)
      | (with_reducible refine LeO.bind ?_ (fun _ => ?_))
      | exact ih0 _ _ _ _ _ _
      | exact ih1 _ _ _ _ _ _ _
      | exact ih2 _ _ _ _ _ _ _
      | exact ih3 _ _ _ _ _ _ _
      | exact LeO.none _
      | refine LeO.ite ?_ ?_
      | refine LeO.bind ?_ (fun _ => ?_)
theorem colloquyref03_Same.mono : ∀ a0 a1 a2 a3 a4 a5 k, LeO (colloquyref03_Same.f k a0 a1 a2 a3 a4 a5) (colloquyref03_Same.f (k + 1) a0 a1 a2 a3 a4 a5) := by
  intro a0 a1 a2 a3 a4 a5 k
  obtain ⟨ih0, ih1, ih2, ih3⟩ := colloquyref03_Same.mono_l k
  exact ih0 a0 a1 a2 a3 a4 a5
def colloquyref03_Same.T6 : Bool × List (List Nat × List Nat) := (true, [([], []), ([0], [0]), ([], []), ([1, 2], [1, 2]), ([3], [3]), ([], []), ([5], [5]), ([], []), ([6, 7], [6, 7]), ([8], [8]), ([4, 9], [4, 9])])
def colloquyref03_Same.B6 : List Nat := [0, 1, 0, 7, 15, 0, 32, 0, 224, 480, 1023]
theorem colloquyref03_Same.tab6 : rtab .any (opsOf Try.f5 6) = colloquyref03_Same.T6 := by kernel_rfl
theorem colloquyref03_Same.bits6 : waitsOk colloquyref03_Same.T6.2 colloquyref03_Same.B6 = true := by kernel_rfl
def colloquyref03_Same.T11 : Bool × List (List Nat × List Nat) := (true, [([], []), ([0], [0]), ([], []), ([1, 2], [1, 2]), ([3], [3]), ([], []), ([5], [5]), ([], []), ([6, 7], [6, 7]), ([8], [8]), ([4, 9], [4, 9]), ([10], [10])])
def colloquyref03_Same.B11 : List Nat := [0, 1, 0, 7, 15, 0, 32, 0, 224, 480, 1023, 2047]
theorem colloquyref03_Same.tab11 : rtab .any (opsOf Try.f5 11) = colloquyref03_Same.T11 := by kernel_rfl
theorem colloquyref03_Same.bits11 : waitsOk colloquyref03_Same.T11.2 colloquyref03_Same.B11 = true := by kernel_rfl
set_option maxHeartbeats 8000000 in
set_option maxRecDepth 100000 in
theorem colloquyref03_Same.calls (k : Nat) : ∀ (a0_0 : Int) (A0_1 : Option Addr) (c0_1 : Nat) (l0_1 : List (S25)) (A0_2 : Option Addr) (c0_2 : Nat) (l0_2 : List (S29)) (a1_0 : Int) (A1_1 : Option Addr) (c1_1 : Nat) (l1_1 : List (S25)) (A1_2 : Option Addr) (c1_2 : Nat) (l1_2 : List (S29)) (r : Bool) (w : World) (hr0_1 : Kd.C k25 w A0_1 l0_1.length l0_1) (hc0_1 : l0_1.length ≤ c0_1) (hr0_2 : Kd.C k29 w A0_2 l0_2.length l0_2) (hc0_2 : l0_2.length ≤ c0_2) (hr1_1 : Kd.C k25 w A1_1 l1_1.length l1_1) (hc1_1 : l1_1.length ≤ c1_1) (hr1_2 : Kd.C k29 w A1_2 l1_2.length l1_2) (hc1_2 : l1_2.length ≤ c1_2) (h : colloquyref03_Same.f k a0_0 l0_1 l0_2 a1_0 l1_1 l1_2 = some r),
    Calls Try.prog 5 #[.agg #[.int .i64 a0_0, .slice A0_1 l0_1.length c0_1, .slice A0_2 l0_2.length c0_2], .agg #[.int .i64 a1_0, .slice A1_1 l1_1.length c1_1, .slice A1_2 l1_2.length c1_2]] w fun e w' => e = .returned (.bool r) ∧ Below w.heap.size w w' := by
  induction k using Nat.strongRecOn with
  | _ k ih =>
  intro a0_0 A0_1 c0_1 l0_1 A0_2 c0_2 l0_2 a1_0 A1_1 c1_1 l1_1 A1_2 c1_2 l1_2 r w hr0_1 hc0_1 hr0_2 hc0_2 hr1_1 hc1_1 hr1_2 hc1_2 h
  cases k with
  | zero => exact absurd h (by simp [colloquyref03_Same.f])
  | succ k =>
  simp only [colloquyref03_Same.f] at h
  have hu29 := Try.underlying29
  have hu25 := Try.underlying25
  have HR0_1 := Aside0.mk hr0_1
  have HC0_1 := Aside0.mk hc0_1
  clear hr0_1 hc0_1
  have HR0_2 := Aside0.mk hr0_2
  have HC0_2 := Aside0.mk hc0_2
  clear hr0_2 hc0_2
  have HR1_1 := Aside0.mk hr1_1
  have HC1_1 := Aside0.mk hc1_1
  clear hr1_1 hc1_1
  have HR1_2 := Aside0.mk hr1_2
  have HC1_2 := Aside0.mk hc1_2
  clear hr1_2 hc1_2
  have HB := Aside0.mk (Below.refl w.heap.size w)
  have H : (if a0_0 = a1_0 then (if (l0_1.length : Int) = (l1_1.length : Int) then (colloquyref03_Same.j0 k ((l0_2.length : Int) != (l1_2.length : Int)) a0_0 l0_1 l0_2 a1_0 l1_1 l1_2) else (colloquyref03_Same.j0 k true a0_0 l0_1 l0_2 a1_0 l1_1 l1_2)) else (colloquyref03_Same.j0 k true a0_0 l0_1 l0_2 a1_0 l1_1 l1_2)) = some r := h
  clear h
  have HC3 := Aside0.mk H
  clear H
  go_enter Try.func5, Try.ntmps5
  go_upto_region 1 with (first | ((with_reducible refine gate_dst (N := 2) rfl ?_); (try (refine gate_guard (by rfl) ?_; dsimp only)); refine box_event ?hg (N := 2) ?hd (cs := #[.int .i64 a0_0, .slice A0_1 l0_1.length c0_1, .slice A0_2 l0_2.length c0_2]) (t := 29) ?hr ?_; (case hd => rfl); (case hg => rfl); (case hr => first | (go_simp; done) | (go_simp; rfl)); intro gb109 hg w4 hbox hb; have n0_ := Aside0.mk (below_step (by repeat (first | (with_reducible first | exact HB.out | apply below_alloc | apply pw_below_drewN | apply below_drew1) | exact HB.out)) hb); have n1_ := Aside0.mk (hbox); have n2_ := Aside0.mk ((by rw [hg]; exact (below_size (by repeat (first | (with_reducible first | exact HB.out | apply below_alloc | apply pw_below_drewN | apply below_drew1) | exact HB.out))) : w.heap.size ≤ gb109)); have n3_ := Aside0.mk ((by rw [hg]; exact (below_size (by repeat (first | (with_reducible first | exact HB.out | apply below_alloc | apply pw_below_drewN | apply below_drew1) | exact HB.out))) : w.heap.size ≤ gb109)); clear HB; have HB := n0_; have BK109 := n1_; have GW109 := n2_; have GE109 := n3_; clear n0_ n1_ n2_ n3_; clear hb hbox hg) | ((with_reducible refine gate_dst (N := 3) rfl ?_); (try (refine gate_guard (by rfl) ?_; dsimp only)); refine box_event ?hg (N := 3) ?hd (cs := #[.int .i64 a1_0, .slice A1_1 l1_1.length c1_1, .slice A1_2 l1_2.length c1_2]) (t := 29) ?hr ?_; (case hd => rfl); (case hg => rfl); (case hr => first | (go_simp; done) | (go_simp; rfl)); intro gb110 hg w5 hbox hb; have n0_ := Aside0.mk (blk_below (g := gb109) (o := .cells #[.int .i64 a0_0, .slice A0_1 l0_1.length c0_1, .slice A0_2 l0_2.length c0_2] 29 (0, 0)) (by (with_reducible repeat (first | refine blk_drewN ?_ _ | refine blk_drew ?_ | refine blk_alloc ?_ _)); exact BK109.out) hb); have n1_ := Aside0.mk (below_step (by repeat (first | (with_reducible first | exact HB.out | apply below_alloc | apply pw_below_drewN | apply below_drew1 | refine below_set ?_ GE109.out) | exact HB.out)) hb); have n2_ := Aside0.mk (hbox); have n3_ := Aside0.mk ((by rw [hg]; exact (below_size (by repeat (first | (with_reducible first | exact HB.out | apply below_alloc | apply pw_below_drewN | apply below_drew1 | refine below_set ?_ GE109.out) | exact HB.out))) : w.heap.size ≤ gb110)); have n4_ := Aside0.mk ((by rw [hg]; exact (below_size (by repeat (first | (with_reducible first | exact HB.out | apply below_alloc | apply pw_below_drewN | apply below_drew1 | refine below_set ?_ GE109.out) | exact HB.out))) : w.heap.size ≤ gb110)); have n5_ := Aside0.mk ((by rw [hg]; exact Nat.ne_of_lt (blk_lt (g := gb109) (o := .cells #[.int .i64 a0_0, .slice A0_1 l0_1.length c0_1, .slice A0_2 l0_2.length c0_2] 29 (0, 0)) (by (with_reducible repeat (first | refine blk_drewN ?_ _ | refine blk_drew ?_ | refine blk_alloc ?_ _)); exact BK109.out)) : gb109 ≠ gb110)); have n6_ := Aside0.mk ((by rw [hg]; exact Nat.ne_of_gt (blk_lt (g := gb109) (o := .cells #[.int .i64 a0_0, .slice A0_1 l0_1.length c0_1, .slice A0_2 l0_2.length c0_2] 29 (0, 0)) (by (with_reducible repeat (first | refine blk_drewN ?_ _ | refine blk_drew ?_ | refine blk_alloc ?_ _)); exact BK109.out)) : gb110 ≠ gb109)); clear BK109; clear HB; have BK109 := n0_; have HB := n1_; have BK110 := n2_; have GW110 := n3_; have GE110 := n4_; have NB109_110 := n5_; have NB110_109 := n6_; clear n0_ n1_ n2_ n3_ n4_ n5_ n6_; clear hb hbox hg))
  (try simp only [Act.put, List.setIfInBounds_toArray, List.set_cons_zero, List.set_cons_succ])
  go_cut [29] (fun v29 wc => ∃ (kq : Nat) (x29_2 : Bool), v29 = .bool x29_2 ∧ Aside0 (colloquyref03_Same.j0 kq x29_2 a0_0 l0_1 l0_2 a1_0 l1_1 l1_2 = some r) ∧ Aside0 (kq ≤ k) ∧ Aside0 (wc.heap[gb109]? = some (.cells #[.int .i64 a0_0, (.slice A0_1 l0_1.length c0_1), (.slice A0_2 l0_2.length c0_2)] 29 (0, 0))) ∧ Aside0 (wc.heap[gb110]? = some (.cells #[.int .i64 a1_0, (.slice A1_1 l1_1.length c1_1), (.slice A1_2 l1_2.length c1_2)] 29 (0, 0))) ∧ Aside0 (Below w.heap.size w wc))
  case first =>
    have H := HC3.out
    clear HC3
    by_cases c6 : a0_0 = a1_0
    · rw [if_pos c6] at H
      have c6b0 : (a0_0 == a1_0) = true := beq_iff_eq.mpr c6
      have c6b1 : (a0_0 != a1_0) = false := bne_eq_false_iff_eq.mpr c6
      clear c6
      (first | rw [c6b0] | rw [c6b1] | (simp only [i64_w, i32_w]; rw [c6b0]) | skip)
      by_cases c7 : (l0_1.length : Int) = (l1_1.length : Int)
      · rw [if_pos c7] at H
        have c7b0 : ((l0_1.length : Int) == (l1_1.length : Int)) = true := beq_iff_eq.mpr c7
        have c7b1 : ((l0_1.length : Int) != (l1_1.length : Int)) = false := bne_eq_false_iff_eq.mpr c7
        have c7b2 : (l0_1.length == l1_1.length) = true := by first | simpa using c7 | (simp at c7 ⊢; omega)
        clear c7
        have H' := Aside0.mk H
        clear H
        have hnb8 := NB109_110.out
        have hnc8 := NB110_109.out
        have hcz9_0 : w5.cell? ⟨gb109, 0, none⟩ = some (.int .i64 a0_0) := (blk_cell BK109.out 0).trans rfl
        have hcz9_1 : w5.cell? ⟨gb109, 1, none⟩ = some (.slice A0_1 l0_1.length c0_1) := (blk_cell BK109.out 1).trans rfl
        have hcz9_2 : w5.cell? ⟨gb109, 2, none⟩ = some (.slice A0_2 l0_2.length c0_2) := (blk_cell BK109.out 2).trans rfl
        have hfz9_0 := blk_frozen BK109.out 0
        have hfz9_1 := blk_frozen BK109.out 1
        have hfz9_2 := blk_frozen BK109.out 2
        have hcz10_0 : w5.cell? ⟨gb110, 0, none⟩ = some (.int .i64 a1_0) := (blk_cell BK110.out 0).trans rfl
        have hcz10_1 : w5.cell? ⟨gb110, 1, none⟩ = some (.slice A1_1 l1_1.length c1_1) := (blk_cell BK110.out 1).trans rfl
        have hcz10_2 : w5.cell? ⟨gb110, 2, none⟩ = some (.slice A1_2 l1_2.length c1_2) := (blk_cell BK110.out 2).trans rfl
        have hfz10_0 := blk_frozen BK110.out 0
        have hfz10_1 := blk_frozen BK110.out 1
        have hfz10_2 := blk_frozen BK110.out 2
        go_wp2
        go_meet
        case rel => exact ⟨_, (((l0_2.length : Int) != (l1_2.length : Int))), (by first | rfl | (simp; done) | (simp [*]; done)), H', ⟨by first | omega | exact Nat.le_refl _⟩, ⟨by (with_reducible repeat (first | refine blk_drewN ?_ _ | refine blk_drew ?_ | refine blk_alloc ?_ _)); exact BK109.out⟩, ⟨by (with_reducible repeat (first | refine blk_drewN ?_ _ | refine blk_drew ?_ | refine blk_alloc ?_ _)); exact BK110.out⟩, ⟨by repeat (first | (with_reducible first | exact HB.out | apply below_alloc | apply pw_below_drewN | apply below_drew1 | refine below_set ?_ GE109.out | refine below_set ?_ GE110.out) | exact HB.out)⟩⟩
      · rw [if_neg c7] at H
        have c7b0 : ((l0_1.length : Int) == (l1_1.length : Int)) = false := beq_eq_false_iff_ne.mpr c7
        have c7b1 : ((l0_1.length : Int) != (l1_1.length : Int)) = true := bne_iff_ne.mpr c7
        have c7b2 : (l0_1.length == l1_1.length) = false := by first | simpa using c7 | (simp at c7 ⊢; omega)
        have H' := Aside0.mk H
        clear H
        have hnb11 := NB109_110.out
        have hnc11 := NB110_109.out
        have hcz12_0 : w5.cell? ⟨gb109, 0, none⟩ = some (.int .i64 a0_0) := (blk_cell BK109.out 0).trans rfl
        have hcz12_1 : w5.cell? ⟨gb109, 1, none⟩ = some (.slice A0_1 l0_1.length c0_1) := (blk_cell BK109.out 1).trans rfl
        have hcz12_2 : w5.cell? ⟨gb109, 2, none⟩ = some (.slice A0_2 l0_2.length c0_2) := (blk_cell BK109.out 2).trans rfl
        have hfz12_0 := blk_frozen BK109.out 0
        have hfz12_1 := blk_frozen BK109.out 1
        have hfz12_2 := blk_frozen BK109.out 2
        have hcz13_0 : w5.cell? ⟨gb110, 0, none⟩ = some (.int .i64 a1_0) := (blk_cell BK110.out 0).trans rfl
        have hcz13_1 : w5.cell? ⟨gb110, 1, none⟩ = some (.slice A1_1 l1_1.length c1_1) := (blk_cell BK110.out 1).trans rfl
        have hcz13_2 : w5.cell? ⟨gb110, 2, none⟩ = some (.slice A1_2 l1_2.length c1_2) := (blk_cell BK110.out 2).trans rfl
        have hfz13_0 := blk_frozen BK110.out 0
        have hfz13_1 := blk_frozen BK110.out 1
        have hfz13_2 := blk_frozen BK110.out 2
        go_wp2
        go_meet
        case rel => exact ⟨_, (true), (by first | rfl | (simp; done) | (simp [*]; done)), H', ⟨by first | omega | exact Nat.le_refl _⟩, ⟨by (with_reducible repeat (first | refine blk_drewN ?_ _ | refine blk_drew ?_ | refine blk_alloc ?_ _)); exact BK109.out⟩, ⟨by (with_reducible repeat (first | refine blk_drewN ?_ _ | refine blk_drew ?_ | refine blk_alloc ?_ _)); exact BK110.out⟩, ⟨by repeat (first | (with_reducible first | exact HB.out | apply below_alloc | apply pw_below_drewN | apply below_drew1 | refine below_set ?_ GE109.out | refine below_set ?_ GE110.out) | exact HB.out)⟩⟩
    · rw [if_neg c6] at H
      have c6b0 : (a0_0 == a1_0) = false := beq_eq_false_iff_ne.mpr c6
      have c6b1 : (a0_0 != a1_0) = true := bne_iff_ne.mpr c6
      (first | rw [c6b0] | rw [c6b1] | (simp only [i64_w, i32_w]; rw [c6b0]) | skip)
      have H' := Aside0.mk H
      clear H
      have hnb14 := NB109_110.out
      have hnc14 := NB110_109.out
      have hcz15_0 : w5.cell? ⟨gb109, 0, none⟩ = some (.int .i64 a0_0) := (blk_cell BK109.out 0).trans rfl
      have hcz15_1 : w5.cell? ⟨gb109, 1, none⟩ = some (.slice A0_1 l0_1.length c0_1) := (blk_cell BK109.out 1).trans rfl
      have hcz15_2 : w5.cell? ⟨gb109, 2, none⟩ = some (.slice A0_2 l0_2.length c0_2) := (blk_cell BK109.out 2).trans rfl
      have hfz15_0 := blk_frozen BK109.out 0
      have hfz15_1 := blk_frozen BK109.out 1
      have hfz15_2 := blk_frozen BK109.out 2
      have hcz16_0 : w5.cell? ⟨gb110, 0, none⟩ = some (.int .i64 a1_0) := (blk_cell BK110.out 0).trans rfl
      have hcz16_1 : w5.cell? ⟨gb110, 1, none⟩ = some (.slice A1_1 l1_1.length c1_1) := (blk_cell BK110.out 1).trans rfl
      have hcz16_2 : w5.cell? ⟨gb110, 2, none⟩ = some (.slice A1_2 l1_2.length c1_2) := (blk_cell BK110.out 2).trans rfl
      have hfz16_0 := blk_frozen BK110.out 0
      have hfz16_1 := blk_frozen BK110.out 1
      have hfz16_2 := blk_frozen BK110.out 2
      go_wp2
      go_meet
      case rel => exact ⟨_, (true), (by first | rfl | (simp; done) | (simp [*]; done)), H', ⟨by first | omega | exact Nat.le_refl _⟩, ⟨by (with_reducible repeat (first | refine blk_drewN ?_ _ | refine blk_drew ?_ | refine blk_alloc ?_ _)); exact BK109.out⟩, ⟨by (with_reducible repeat (first | refine blk_drewN ?_ _ | refine blk_drew ?_ | refine blk_alloc ?_ _)); exact BK110.out⟩, ⟨by repeat (first | (with_reducible first | exact HB.out | apply below_alloc | apply pw_below_drewN | apply below_drew1 | refine below_set ?_ GE109.out | refine below_set ?_ GE110.out) | exact HB.out)⟩⟩
  case rest =>
    clear HC3
    try clear c1
    try clear p2
    try clear c5
    try clear c6
    try clear c6b0
    try clear c6b1
    try clear c7
    try clear c7b0
    try clear c7b1
    try clear c7b2
    try clear c8
    try clear c11
    try clear c14
    try clear hcz10_0
    try clear hcz10_1
    try clear hcz10_2
    try clear hcz12_0
    try clear hcz12_1
    try clear hcz12_2
    try clear hcz13_0
    try clear hcz13_1
    try clear hcz13_2
    try clear hcz15_0
    try clear hcz15_1
    try clear hcz15_2
    try clear hcz16_0
    try clear hcz16_1
    try clear hcz16_2
    try clear hcz9_0
    try clear hcz9_1
    try clear hcz9_2
    try clear hfz10_0
    try clear hfz10_1
    try clear hfz10_2
    try clear hfz12_0
    try clear hfz12_1
    try clear hfz12_2
    try clear hfz13_0
    try clear hfz13_1
    try clear hfz13_2
    try clear hfz15_0
    try clear hfz15_1
    try clear hfz15_2
    try clear hfz16_0
    try clear hfz16_1
    try clear hfz16_2
    try clear hfz9_0
    try clear hfz9_1
    try clear hfz9_2
    obtain ⟨kq, x29_2, rfl, HA, HJ2, BK109, BK110, HB⟩ := hcut
    cases kq with
    | zero => exact absurd HA.out (by simp [colloquyref03_Same.j0])
    | succ kj2 =>
      have H := HA.out
      clear HA
      simp only [colloquyref03_Same.j0] at H
      by_cases c17 : x29_2 = true
      · subst c17
        have H1 : (some false) = some r := by rw [if_pos rfl] at H; exact H
        clear H
        have H := H1
        clear H1
        obtain rfl := Option.some.inj H
        go_wp2
        go_ret
        exact ⟨by first | rfl | (simp [errW_none, errW_some] <;> rfl) | (simp [*, errW_none, errW_some] <;> rfl), by repeat (first | (with_reducible first | exact HB.out | apply below_alloc | apply pw_below_drewN | apply below_drew1 | refine below_set ?_ GE109.out | refine below_set ?_ GE110.out) | exact HB.out)⟩
      · replace c17 := Bool.eq_false_iff.mpr c17
        subst c17
        have H1 : (colloquyref03_Same.l0 kj2 0 a0_0 l0_1 l0_2 a1_0 l1_1 l1_2) = some r := by rw [if_neg (show ¬ (false = true) by decide)] at H; exact H
        clear H
        have H := H1
        clear H1
        have H' := Aside0.mk H
        clear H
        go_wp2
        go_loopg [5] kj2 (fun kq v5 w' => ∃ (x5_2 : Int), v5 = .int .i64 x5_2 ∧ Aside0 (colloquyref03_Same.l0 kq x5_2 a0_0 l0_1 l0_2 a1_0 l1_1 l1_2 = some r) ∧ Aside0 (kq ≤ kj2) ∧ Aside0 (w'.heap[gb109]? = some (.cells #[.int .i64 a0_0, (.slice A0_1 l0_1.length c0_1), (.slice A0_2 l0_2.length c0_2)] 29 (0, 0))) ∧ Aside0 (w'.heap[gb110]? = some (.cells #[.int .i64 a1_0, (.slice A1_1 l1_1.length c1_1), (.slice A1_2 l1_2.length c1_2)] 29 (0, 0))) ∧ Aside0 (Below w.heap.size w w'))
        case atStart => exact ⟨(0), (by first | rfl | (simp; done) | (simp [*]; done)), H', ⟨Nat.le_refl _⟩, ⟨by (with_reducible repeat (first | refine blk_drewN ?_ _ | refine blk_drew ?_ | refine blk_alloc ?_ _)); exact BK109.out⟩, ⟨by (with_reducible repeat (first | refine blk_drewN ?_ _ | refine blk_drew ?_ | refine blk_alloc ?_ _)); exact BK110.out⟩, ⟨by repeat (first | (with_reducible first | exact HB.out | apply below_alloc | apply pw_below_drewN | apply below_drew1 | refine below_set ?_ GE109.out | refine below_set ?_ GE110.out) | exact HB.out)⟩⟩
        case round =>
          clear H'
          try clear c1
          try clear p2
          try clear c5
          try clear c6
          try clear c6b0
          try clear c6b1
          try clear c7
          try clear c7b0
          try clear c7b1
          try clear c7b2
          try clear c8
          try clear c11
          try clear c14
          try clear c17
          try clear hcz10_0
          try clear hcz10_1
          try clear hcz10_2
          try clear hcz12_0
          try clear hcz12_1
          try clear hcz12_2
          try clear hcz13_0
          try clear hcz13_1
          try clear hcz13_2
          try clear hcz15_0
          try clear hcz15_1
          try clear hcz15_2
          try clear hcz16_0
          try clear hcz16_1
          try clear hcz16_2
          try clear hcz9_0
          try clear hcz9_1
          try clear hcz9_2
          try clear hfz10_0
          try clear hfz10_1
          try clear hfz10_2
          try clear hfz12_0
          try clear hfz12_1
          try clear hfz12_2
          try clear hfz13_0
          try clear hfz13_1
          try clear hfz13_2
          try clear hfz15_0
          try clear hfz15_1
          try clear hfz15_2
          try clear hfz16_0
          try clear hfz16_1
          try clear hfz16_2
          try clear hfz9_0
          try clear hfz9_1
          try clear hfz9_2
          try clear p2
          obtain ⟨x5_2, rfl, HA, HK2, BK109, BK110, HB⟩ := hrel
          cases gk with
          | zero => exact absurd HA.out (by simp [colloquyref03_Same.l0])
          | succ k2 =>
            have H := HA.out
            clear HA
            simp only [colloquyref03_Same.l0] at H
            by_cases c18 : x5_2 < (l0_1.length : Int)
            · rw [if_pos c18] at H
              have c18b0 : decide (x5_2 < (l0_1.length : Int)) = true := decide_eq_true c18
              clear c18
              by_cases c19 : 0 ≤ x5_2
              · rw [if_pos c19] at H
                have c19b0 : decide (0 ≤ x5_2) = true := decide_eq_true c19
                clear c19
                by_cases c20 : x5_2 < (l1_1.length : Int)
                · rw [if_pos c20] at H
                  have c20b0 : decide (x5_2 < (l1_1.length : Int)) = true := decide_eq_true c20
                  clear c20
                  by_cases c21 : (!(((rd_T25 l0_1 x5_2).f0) == ((rd_T25 l1_1 x5_2).f0)) || (!(((rd_T25 l0_1 x5_2).f1) == ((rd_T25 l1_1 x5_2).f1)))) = true
                  · rw [if_pos c21] at H
                    have c21b0 : (!(((rd_T25 l0_1 x5_2).f0) == ((rd_T25 l1_1 x5_2).f0)) || (!(((rd_T25 l0_1 x5_2).f1) == ((rd_T25 l1_1 x5_2).f1)))) = true := c21
                    clear c21
                    obtain rfl := Option.some.inj H
                    have hnb22 := NB109_110.out
                    have hnc22 := NB110_109.out
                    have hcz23_0 : wr.cell? ⟨gb109, 0, none⟩ = some (.int .i64 a0_0) := (blk_cell BK109.out 0).trans rfl
                    have hcz23_1 : wr.cell? ⟨gb109, 1, none⟩ = some (.slice A0_1 l0_1.length c0_1) := (blk_cell BK109.out 1).trans rfl
                    have hcz23_2 : wr.cell? ⟨gb109, 2, none⟩ = some (.slice A0_2 l0_2.length c0_2) := (blk_cell BK109.out 2).trans rfl
                    have hfz23_0 := blk_frozen BK109.out 0
                    have hfz23_1 := blk_frozen BK109.out 1
                    have hfz23_2 := blk_frozen BK109.out 2
                    try go_wp2
                    have n0_ := Aside0.mk (blk_drew BK109.out)
                    have n1_ := Aside0.mk (blk_drew BK110.out)
                    have n2_ := Aside0.mk (below_drew1 HB.out)
                    clear BK109
                    clear BK110
                    clear HB
                    have BK109 := n0_
                    have BK110 := n1_
                    have HB := n2_
                    clear n0_ n1_ n2_
                    have p111 : 0 ≤ (x5_2 : Int) := of_decide_eq_true (by first | (with_reducible assumption) | assumption)
                    have q111 : x5_2 < (l0_1.length : Int) := of_decide_eq_true (by first | (with_reducible assumption) | assumption)
                    obtain ⟨ad111, e111, hx111_0, hx111_1⟩ := at_T25 HR0_1.out x5_2 p111 q111
                    have hw111_1 := hx111_1
                    have hw111_0 := hx111_0
                    cases e111
                    replace hx111_0 := (HB.out.cell (World.block_lt_of_cell? w _ hx111_0)).trans hx111_0
                    replace hx111_1 := (HB.out.cell (World.block_lt_of_cell? w _ hx111_1)).trans hx111_1
                    replace p111 := eq_true p111
                    replace q111 := eq_true q111
                    have p112 : 0 ≤ (x5_2 : Int) := of_decide_eq_true (by first | (with_reducible assumption) | assumption)
                    have q112 : x5_2 < (l1_1.length : Int) := of_decide_eq_true (by first | (with_reducible assumption) | assumption)
                    obtain ⟨ad112, e112, hx112_0, hx112_1⟩ := at_T25 HR1_1.out x5_2 p112 q112
                    have hw112_1 := hx112_1
                    have hw112_0 := hx112_0
                    cases e112
                    replace hx112_0 := (HB.out.cell (World.block_lt_of_cell? w _ hx112_0)).trans hx112_0
                    replace hx112_1 := (HB.out.cell (World.block_lt_of_cell? w _ hx112_1)).trans hx112_1
                    replace p112 := eq_true p112
                    replace q112 := eq_true q112
                    refine start_ (n := 11) (S := fun w' => w'.cell? ⟨gb109, 0, none⟩ = some (.int .i64 a0_0) ∧ w'.cell? ⟨gb109, 1, none⟩ = some (.slice (some ad111) l0_1.length c0_1) ∧ w'.cell? ⟨gb109, 2, none⟩ = some (.slice A0_2 l0_2.length c0_2) ∧ w'.cell? ⟨gb110, 0, none⟩ = some (.int .i64 a1_0) ∧ w'.cell? ⟨gb110, 1, none⟩ = some (.slice (some ad112) l1_1.length c1_1) ∧ w'.cell? ⟨gb110, 2, none⟩ = some (.slice A1_2 l1_2.length c1_2) ∧ w'.cell? (ad111.add ((x5_2).toNat * 2)) = some (.int .u8 ((rd_T25 l0_1 x5_2).f0)) ∧ w'.cell? ⟨(ad111.add ((x5_2).toNat * 2)).block, (ad111.add ((x5_2).toNat * 2)).off + 1, none⟩ = some (.int .u8 ((rd_T25 l0_1 x5_2).f1)) ∧ w'.cell? (ad112.add ((x5_2).toNat * 2)) = some (.int .u8 ((rd_T25 l1_1 x5_2).f0)) ∧ w'.cell? ⟨(ad112.add ((x5_2).toNat * 2)).block, (ad112.add ((x5_2).toNat * 2)).off + 1, none⟩ = some (.int .u8 ((rd_T25 l1_1 x5_2).f1))) (ds := []) #[false, false, false, false, false, false, false, false, false, false, false] (by kernel_rfl) rfl rfl ⟨(blk_cell BK109.out 0).trans rfl, (blk_cell BK109.out 1).trans rfl, (blk_cell BK109.out 2).trans rfl, (blk_cell BK110.out 0).trans rfl, (blk_cell BK110.out 1).trans rfl, (blk_cell BK110.out 2).trans rfl, ((HB.out.cell (World.block_lt_of_cell? w _ hw111_0)).trans hw111_0), ((HB.out.cell (World.block_lt_of_cell? w _ hw111_1)).trans hw111_1), ((HB.out.cell (World.block_lt_of_cell? w _ hw112_0)).trans hw112_0), ((HB.out.cell (World.block_lt_of_cell? w _ hw112_1)).trans hw112_1)⟩ (fun hHeld => ?_); refine with_tabW colloquyref03_Same.tab6 colloquyref03_Same.bits6 (fun HT_ HW_ => ?_)
                    generalize wr.drew = w24 at BK109 BK110 HB hx111_0 hx111_1 hx112_0 hx112_1 hHeld ⊢
                    refine pure_ (i := 0) (N := some 37) (v := ?_) (a' := ?_) #[true, false, false, false, false, false, false, false, false, false, false] rfl rfl (any_of HT_.out (by kernel_rfl)) (fun _ _ _ h => h) (Or.inl ⟨by rfl, ?_⟩) ?_ ?_
                    rotate_left
                    · intro w'
                      go_simp
                      with_reducible rfl
                    rotate_left
                    · simp only [Act.put, List.setIfInBounds_toArray, List.set_cons_zero, List.set_cons_succ, i64_w, i32_w]
                      rfl
                    refine pure_ (i := 2) (N := some 39) (v := ?_) (a' := ?_) #[true, false, true, false, false, false, false, false, false, false, false] rfl rfl (any_of HT_.out (by kernel_rfl)) (fun _ _ _ h => h) (Or.inl ⟨by rfl, ?_⟩) ?_ ?_
                    rotate_left
                    · intro w'
                      go_simp
                      with_reducible rfl
                    rotate_left
                    · simp only [Act.put, List.setIfInBounds_toArray, List.set_cons_zero, List.set_cons_succ, i64_w, i32_w]
                      rfl
                    refine pure_ (i := 5) (N := some 42) (v := ?_) (a' := ?_) #[true, false, true, false, false, true, false, false, false, false, false] rfl rfl (any_of HT_.out (by kernel_rfl)) (fun _ _ _ h => h) (Or.inl ⟨by rfl, ?_⟩) ?_ ?_
                    rotate_left
                    · intro w'
                      go_simp
                      with_reducible rfl
                    rotate_left
                    · simp only [Act.put, List.setIfInBounds_toArray, List.set_cons_zero, List.set_cons_succ, i64_w, i32_w]
                      rfl
                    refine pure_ (i := 7) (N := some 44) (v := ?_) (a' := ?_) #[true, false, true, false, false, true, false, true, false, false, false] rfl rfl (any_of HT_.out (by kernel_rfl)) (fun _ _ _ h => h) (Or.inl ⟨by rfl, ?_⟩) ?_ ?_
                    rotate_left
                    · intro w'
                      go_simp
                      with_reducible rfl
                    rotate_left
                    · simp only [Act.put, List.setIfInBounds_toArray, List.set_cons_zero, List.set_cons_succ, i64_w, i32_w]
                      rfl
                    refine take_ (i := 1) (N := some 38) (v := ?_) (a' := ?_) #[true, true, true, false, false, true, false, true, false, false, false] rfl rfl (take_ofW HT_.out HW_.out (by kernel_rfl)) (fun _ _ _ h => h) (Or.inl ⟨by rfl, ?_⟩) hHeld ?_ ?_
                    rotate_left
                    · rintro w' ⟨s0, s1, s2, s3, s4, s5, s6, s7, s8, s9⟩
                      go_simp
                      with_reducible rfl
                    rotate_left
                    · simp only [Act.put, List.setIfInBounds_toArray, List.set_cons_zero, List.set_cons_succ, i64_w, i32_w]
                      rfl
                    refine pure_ (i := 3) (N := some 40) (v := ?_) (a' := ?_) #[true, true, true, true, false, true, false, true, false, false, false] rfl rfl (any_of HT_.out (by kernel_rfl)) (fun _ _ _ h => h) (Or.inl ⟨by rfl, ?_⟩) ?_ ?_
                    rotate_left
                    · intro w'
                      go_simp
                      with_reducible rfl
                    rotate_left
                    · simp only [Act.put, List.setIfInBounds_toArray, List.set_cons_zero, List.set_cons_succ, i64_w, i32_w]
                      rfl
                    refine take_ (i := 4) (N := some 41) (v := ?_) (a' := ?_) #[true, true, true, true, true, true, false, true, false, false, false] rfl rfl (take_ofW HT_.out HW_.out (by kernel_rfl)) (fun _ _ _ h => h) (Or.inl ⟨by rfl, ?_⟩) hHeld ?_ ?_
                    rotate_left
                    · rintro w' ⟨s0, s1, s2, s3, s4, s5, s6, s7, s8, s9⟩
                      go_simp
                      with_reducible rfl
                    rotate_left
                    · simp only [Act.put, List.setIfInBounds_toArray, List.set_cons_zero, List.set_cons_succ, i64_w, i32_w]
                      rfl
                    refine take_ (i := 6) (N := some 43) (v := ?_) (a' := ?_) #[true, true, true, true, true, true, true, true, false, false, false] rfl rfl (take_ofW HT_.out HW_.out (by kernel_rfl)) (fun _ _ _ h => h) (Or.inl ⟨by rfl, ?_⟩) hHeld ?_ ?_
                    rotate_left
                    · rintro w' ⟨s0, s1, s2, s3, s4, s5, s6, s7, s8, s9⟩
                      go_simp
                      with_reducible rfl
                    rotate_left
                    · simp only [Act.put, List.setIfInBounds_toArray, List.set_cons_zero, List.set_cons_succ, i64_w, i32_w]
                      rfl
                    refine pure_ (i := 8) (N := some 45) (v := ?_) (a' := ?_) #[true, true, true, true, true, true, true, true, true, false, false] rfl rfl (any_of HT_.out (by kernel_rfl)) (fun _ _ _ h => h) (Or.inl ⟨by rfl, ?_⟩) ?_ ?_
                    rotate_left
                    · intro w'
                      go_simp
                      with_reducible rfl
                    rotate_left
                    · simp only [Act.put, List.setIfInBounds_toArray, List.set_cons_zero, List.set_cons_succ, i64_w, i32_w]
                      rfl
                    refine take_ (i := 9) (N := some 46) (v := ?_) (a' := ?_) #[true, true, true, true, true, true, true, true, true, true, false] rfl rfl (take_ofW HT_.out HW_.out (by kernel_rfl)) (fun _ _ _ h => h) (Or.inl ⟨by rfl, ?_⟩) hHeld ?_ ?_
                    rotate_left
                    · rintro w' ⟨s0, s1, s2, s3, s4, s5, s6, s7, s8, s9⟩
                      go_simp
                      with_reducible rfl
                    rotate_left
                    · simp only [Act.put, List.setIfInBounds_toArray, List.set_cons_zero, List.set_cons_succ, i64_w, i32_w]
                      rfl
                    refine pure_ (i := 10) (N := some 47) (v := ?_) (a' := ?_) #[true, true, true, true, true, true, true, true, true, true, true] rfl rfl (any_of HT_.out (by kernel_rfl)) (fun _ _ _ h => h) (Or.inl ⟨by rfl, ?_⟩) ?_ ?_
                    rotate_left
                    · intro w'
                      go_simp
                      with_reducible rfl
                    rotate_left
                    · simp only [Act.put, List.setIfInBounds_toArray, List.set_cons_zero, List.set_cons_succ, i64_w, i32_w]
                      rfl
                    refine done_ (done_of HT_.out (by kernel_rfl)) ?_
                    try go_wp2
                    go_ret
                    exact ⟨by first | rfl | (simp [errW_none, errW_some] <;> rfl) | (simp [*, errW_none, errW_some] <;> rfl), by repeat (first | (with_reducible first | exact HB.out | apply below_alloc | apply pw_below_drewN | apply below_drew1 | refine below_set ?_ GE109.out | refine below_set ?_ GE110.out) | exact HB.out)⟩
                  · rw [if_neg c21] at H
                    have c21b0 : (!(((rd_T25 l0_1 x5_2).f0) == ((rd_T25 l1_1 x5_2).f0)) || (!(((rd_T25 l0_1 x5_2).f1) == ((rd_T25 l1_1 x5_2).f1)))) = false := by simpa using c21
                    clear c21
                    have H' := Aside0.mk H
                    clear H
                    have hnb25 := NB109_110.out
                    have hnc25 := NB110_109.out
                    have hcz26_0 : wr.cell? ⟨gb109, 0, none⟩ = some (.int .i64 a0_0) := (blk_cell BK109.out 0).trans rfl
                    have hcz26_1 : wr.cell? ⟨gb109, 1, none⟩ = some (.slice A0_1 l0_1.length c0_1) := (blk_cell BK109.out 1).trans rfl
                    have hcz26_2 : wr.cell? ⟨gb109, 2, none⟩ = some (.slice A0_2 l0_2.length c0_2) := (blk_cell BK109.out 2).trans rfl
                    have hfz26_0 := blk_frozen BK109.out 0
                    have hfz26_1 := blk_frozen BK109.out 1
                    have hfz26_2 := blk_frozen BK109.out 2
                    try go_wp2
                    have n0_ := Aside0.mk (blk_drew BK109.out)
                    have n1_ := Aside0.mk (blk_drew BK110.out)
                    have n2_ := Aside0.mk (below_drew1 HB.out)
                    clear BK109
                    clear BK110
                    clear HB
                    have BK109 := n0_
                    have BK110 := n1_
                    have HB := n2_
                    clear n0_ n1_ n2_
                    have p111 : 0 ≤ (x5_2 : Int) := of_decide_eq_true (by first | (with_reducible assumption) | assumption)
                    have q111 : x5_2 < (l0_1.length : Int) := of_decide_eq_true (by first | (with_reducible assumption) | assumption)
                    obtain ⟨ad111, e111, hx111_0, hx111_1⟩ := at_T25 HR0_1.out x5_2 p111 q111
                    have hw111_1 := hx111_1
                    have hw111_0 := hx111_0
                    cases e111
                    replace hx111_0 := (HB.out.cell (World.block_lt_of_cell? w _ hx111_0)).trans hx111_0
                    replace hx111_1 := (HB.out.cell (World.block_lt_of_cell? w _ hx111_1)).trans hx111_1
                    replace p111 := eq_true p111
                    replace q111 := eq_true q111
                    have p112 : 0 ≤ (x5_2 : Int) := of_decide_eq_true (by first | (with_reducible assumption) | assumption)
                    have q112 : x5_2 < (l1_1.length : Int) := of_decide_eq_true (by first | (with_reducible assumption) | assumption)
                    obtain ⟨ad112, e112, hx112_0, hx112_1⟩ := at_T25 HR1_1.out x5_2 p112 q112
                    have hw112_1 := hx112_1
                    have hw112_0 := hx112_0
                    cases e112
                    replace hx112_0 := (HB.out.cell (World.block_lt_of_cell? w _ hx112_0)).trans hx112_0
                    replace hx112_1 := (HB.out.cell (World.block_lt_of_cell? w _ hx112_1)).trans hx112_1
                    replace p112 := eq_true p112
                    replace q112 := eq_true q112
                    refine start_ (n := 11) (S := fun w' => w'.cell? ⟨gb109, 0, none⟩ = some (.int .i64 a0_0) ∧ w'.cell? ⟨gb109, 1, none⟩ = some (.slice (some ad111) l0_1.length c0_1) ∧ w'.cell? ⟨gb109, 2, none⟩ = some (.slice A0_2 l0_2.length c0_2) ∧ w'.cell? ⟨gb110, 0, none⟩ = some (.int .i64 a1_0) ∧ w'.cell? ⟨gb110, 1, none⟩ = some (.slice (some ad112) l1_1.length c1_1) ∧ w'.cell? ⟨gb110, 2, none⟩ = some (.slice A1_2 l1_2.length c1_2) ∧ w'.cell? (ad111.add ((x5_2).toNat * 2)) = some (.int .u8 ((rd_T25 l0_1 x5_2).f0)) ∧ w'.cell? ⟨(ad111.add ((x5_2).toNat * 2)).block, (ad111.add ((x5_2).toNat * 2)).off + 1, none⟩ = some (.int .u8 ((rd_T25 l0_1 x5_2).f1)) ∧ w'.cell? (ad112.add ((x5_2).toNat * 2)) = some (.int .u8 ((rd_T25 l1_1 x5_2).f0)) ∧ w'.cell? ⟨(ad112.add ((x5_2).toNat * 2)).block, (ad112.add ((x5_2).toNat * 2)).off + 1, none⟩ = some (.int .u8 ((rd_T25 l1_1 x5_2).f1))) (ds := []) #[false, false, false, false, false, false, false, false, false, false, false] (by kernel_rfl) rfl rfl ⟨(blk_cell BK109.out 0).trans rfl, (blk_cell BK109.out 1).trans rfl, (blk_cell BK109.out 2).trans rfl, (blk_cell BK110.out 0).trans rfl, (blk_cell BK110.out 1).trans rfl, (blk_cell BK110.out 2).trans rfl, ((HB.out.cell (World.block_lt_of_cell? w _ hw111_0)).trans hw111_0), ((HB.out.cell (World.block_lt_of_cell? w _ hw111_1)).trans hw111_1), ((HB.out.cell (World.block_lt_of_cell? w _ hw112_0)).trans hw112_0), ((HB.out.cell (World.block_lt_of_cell? w _ hw112_1)).trans hw112_1)⟩ (fun hHeld => ?_); refine with_tabW colloquyref03_Same.tab6 colloquyref03_Same.bits6 (fun HT_ HW_ => ?_)
                    generalize wr.drew = w27 at BK109 BK110 HB hx111_0 hx111_1 hx112_0 hx112_1 hHeld ⊢
                    refine pure_ (i := 0) (N := some 37) (v := ?_) (a' := ?_) #[true, false, false, false, false, false, false, false, false, false, false] rfl rfl (any_of HT_.out (by kernel_rfl)) (fun _ _ _ h => h) (Or.inl ⟨by rfl, ?_⟩) ?_ ?_
                    rotate_left
                    · intro w'
                      go_simp
                      with_reducible rfl
                    rotate_left
                    · simp only [Act.put, List.setIfInBounds_toArray, List.set_cons_zero, List.set_cons_succ, i64_w, i32_w]
                      rfl
                    refine pure_ (i := 2) (N := some 39) (v := ?_) (a' := ?_) #[true, false, true, false, false, false, false, false, false, false, false] rfl rfl (any_of HT_.out (by kernel_rfl)) (fun _ _ _ h => h) (Or.inl ⟨by rfl, ?_⟩) ?_ ?_
                    rotate_left
                    · intro w'
                      go_simp
                      with_reducible rfl
                    rotate_left
                    · simp only [Act.put, List.setIfInBounds_toArray, List.set_cons_zero, List.set_cons_succ, i64_w, i32_w]
                      rfl
                    refine pure_ (i := 5) (N := some 42) (v := ?_) (a' := ?_) #[true, false, true, false, false, true, false, false, false, false, false] rfl rfl (any_of HT_.out (by kernel_rfl)) (fun _ _ _ h => h) (Or.inl ⟨by rfl, ?_⟩) ?_ ?_
                    rotate_left
                    · intro w'
                      go_simp
                      with_reducible rfl
                    rotate_left
                    · simp only [Act.put, List.setIfInBounds_toArray, List.set_cons_zero, List.set_cons_succ, i64_w, i32_w]
                      rfl
                    refine pure_ (i := 7) (N := some 44) (v := ?_) (a' := ?_) #[true, false, true, false, false, true, false, true, false, false, false] rfl rfl (any_of HT_.out (by kernel_rfl)) (fun _ _ _ h => h) (Or.inl ⟨by rfl, ?_⟩) ?_ ?_
                    rotate_left
                    · intro w'
                      go_simp
                      with_reducible rfl
                    rotate_left
                    · simp only [Act.put, List.setIfInBounds_toArray, List.set_cons_zero, List.set_cons_succ, i64_w, i32_w]
                      rfl
                    refine take_ (i := 1) (N := some 38) (v := ?_) (a' := ?_) #[true, true, true, false, false, true, false, true, false, false, false] rfl rfl (take_ofW HT_.out HW_.out (by kernel_rfl)) (fun _ _ _ h => h) (Or.inl ⟨by rfl, ?_⟩) hHeld ?_ ?_
                    rotate_left
                    · rintro w' ⟨s0, s1, s2, s3, s4, s5, s6, s7, s8, s9⟩
                      go_simp
                      with_reducible rfl
                    rotate_left
                    · simp only [Act.put, List.setIfInBounds_toArray, List.set_cons_zero, List.set_cons_succ, i64_w, i32_w]
                      rfl
                    refine pure_ (i := 3) (N := some 40) (v := ?_) (a' := ?_) #[true, true, true, true, false, true, false, true, false, false, false] rfl rfl (any_of HT_.out (by kernel_rfl)) (fun _ _ _ h => h) (Or.inl ⟨by rfl, ?_⟩) ?_ ?_
                    rotate_left
                    · intro w'
                      go_simp
                      with_reducible rfl
                    rotate_left
                    · simp only [Act.put, List.setIfInBounds_toArray, List.set_cons_zero, List.set_cons_succ, i64_w, i32_w]
                      rfl
                    refine take_ (i := 4) (N := some 41) (v := ?_) (a' := ?_) #[true, true, true, true, true, true, false, true, false, false, false] rfl rfl (take_ofW HT_.out HW_.out (by kernel_rfl)) (fun _ _ _ h => h) (Or.inl ⟨by rfl, ?_⟩) hHeld ?_ ?_
                    rotate_left
                    · rintro w' ⟨s0, s1, s2, s3, s4, s5, s6, s7, s8, s9⟩
                      go_simp
                      with_reducible rfl
                    rotate_left
                    · simp only [Act.put, List.setIfInBounds_toArray, List.set_cons_zero, List.set_cons_succ, i64_w, i32_w]
                      rfl
                    refine take_ (i := 6) (N := some 43) (v := ?_) (a' := ?_) #[true, true, true, true, true, true, true, true, false, false, false] rfl rfl (take_ofW HT_.out HW_.out (by kernel_rfl)) (fun _ _ _ h => h) (Or.inl ⟨by rfl, ?_⟩) hHeld ?_ ?_
                    rotate_left
                    · rintro w' ⟨s0, s1, s2, s3, s4, s5, s6, s7, s8, s9⟩
                      go_simp
                      with_reducible rfl
                    rotate_left
                    · simp only [Act.put, List.setIfInBounds_toArray, List.set_cons_zero, List.set_cons_succ, i64_w, i32_w]
                      rfl
                    refine pure_ (i := 8) (N := some 45) (v := ?_) (a' := ?_) #[true, true, true, true, true, true, true, true, true, false, false] rfl rfl (any_of HT_.out (by kernel_rfl)) (fun _ _ _ h => h) (Or.inl ⟨by rfl, ?_⟩) ?_ ?_
                    rotate_left
                    · intro w'
                      go_simp
                      with_reducible rfl
                    rotate_left
                    · simp only [Act.put, List.setIfInBounds_toArray, List.set_cons_zero, List.set_cons_succ, i64_w, i32_w]
                      rfl
                    refine take_ (i := 9) (N := some 46) (v := ?_) (a' := ?_) #[true, true, true, true, true, true, true, true, true, true, false] rfl rfl (take_ofW HT_.out HW_.out (by kernel_rfl)) (fun _ _ _ h => h) (Or.inl ⟨by rfl, ?_⟩) hHeld ?_ ?_
                    rotate_left
                    · rintro w' ⟨s0, s1, s2, s3, s4, s5, s6, s7, s8, s9⟩
                      go_simp
                      with_reducible rfl
                    rotate_left
                    · simp only [Act.put, List.setIfInBounds_toArray, List.set_cons_zero, List.set_cons_succ, i64_w, i32_w]
                      rfl
                    refine pure_ (i := 10) (N := some 47) (v := ?_) (a' := ?_) #[true, true, true, true, true, true, true, true, true, true, true] rfl rfl (any_of HT_.out (by kernel_rfl)) (fun _ _ _ h => h) (Or.inl ⟨by rfl, ?_⟩) ?_ ?_
                    rotate_left
                    · intro w'
                      go_simp
                      with_reducible rfl
                    rotate_left
                    · simp only [Act.put, List.setIfInBounds_toArray, List.set_cons_zero, List.set_cons_succ, i64_w, i32_w]
                      rfl
                    refine done_ (done_of HT_.out (by kernel_rfl)) ?_
                    try go_wp2
                    go_roundg k2
                    case measure => have := HJ2.out; have := HK2.out; omega
                    case rel => exact ⟨(wrap64 (x5_2 + 1)), (by first | rfl | (simp; done) | (simp [*]; done)), H', ⟨by have := HJ2.out; have := HK2.out; omega⟩, ⟨by (with_reducible repeat (first | refine blk_drewN ?_ _ | refine blk_drew ?_ | refine blk_alloc ?_ _)); exact BK109.out⟩, ⟨by (with_reducible repeat (first | refine blk_drewN ?_ _ | refine blk_drew ?_ | refine blk_alloc ?_ _)); exact BK110.out⟩, ⟨by repeat (first | (with_reducible first | exact HB.out | apply below_alloc | apply pw_below_drewN | apply below_drew1 | refine below_set ?_ GE109.out | refine below_set ?_ GE110.out) | exact HB.out)⟩⟩
                · rw [if_neg c20] at H
                  exact absurd H (by simp)
              · rw [if_neg c19] at H
                exact absurd H (by simp)
            · rw [if_neg c18] at H
              have c18b0 : decide (x5_2 < (l0_1.length : Int)) = false := decide_eq_false c18
              clear c18
              have H' := Aside0.mk H
              clear H
              have hnb28 := NB109_110.out
              have hnc28 := NB110_109.out
              have hcz29_0 : wr.cell? ⟨gb109, 0, none⟩ = some (.int .i64 a0_0) := (blk_cell BK109.out 0).trans rfl
              have hcz29_1 : wr.cell? ⟨gb109, 1, none⟩ = some (.slice A0_1 l0_1.length c0_1) := (blk_cell BK109.out 1).trans rfl
              have hcz29_2 : wr.cell? ⟨gb109, 2, none⟩ = some (.slice A0_2 l0_2.length c0_2) := (blk_cell BK109.out 2).trans rfl
              have hfz29_0 := blk_frozen BK109.out 0
              have hfz29_1 := blk_frozen BK109.out 1
              have hfz29_2 := blk_frozen BK109.out 2
              go_wp2
              go_loopg [6] k2 (fun kq v6 w' => ∃ (x6_3 : Int), v6 = .int .i64 x6_3 ∧ Aside0 (colloquyref03_Same.l1 kq x6_3 a0_0 l0_1 l0_2 a1_0 l1_1 l1_2 = some r) ∧ Aside0 (kq ≤ k2) ∧ Aside0 (w'.heap[gb109]? = some (.cells #[.int .i64 a0_0, (.slice A0_1 l0_1.length c0_1), (.slice A0_2 l0_2.length c0_2)] 29 (0, 0))) ∧ Aside0 (w'.heap[gb110]? = some (.cells #[.int .i64 a1_0, (.slice A1_1 l1_1.length c1_1), (.slice A1_2 l1_2.length c1_2)] 29 (0, 0))) ∧ Aside0 (Below w.heap.size w w'))
              case atStart => exact ⟨(0), (by first | rfl | (simp; done) | (simp [*]; done)), H', ⟨Nat.le_refl _⟩, ⟨by (with_reducible repeat (first | refine blk_drewN ?_ _ | refine blk_drew ?_ | refine blk_alloc ?_ _)); exact BK109.out⟩, ⟨by (with_reducible repeat (first | refine blk_drewN ?_ _ | refine blk_drew ?_ | refine blk_alloc ?_ _)); exact BK110.out⟩, ⟨by repeat (first | (with_reducible first | exact HB.out | apply below_alloc | apply pw_below_drewN | apply below_drew1 | refine below_set ?_ GE109.out | refine below_set ?_ GE110.out) | exact HB.out)⟩⟩
              case round =>
                clear H'
                try clear c1
                try clear p1
                try clear q1
                try clear hx1
                try clear c2
                try clear p2
                try clear c5
                try clear c6
                try clear c6b0
                try clear c6b1
                try clear p6
                try clear c7
                try clear c7b0
                try clear c7b1
                try clear c7b2
                try clear c8
                try clear c11
                try clear p11
                try clear q11
                try clear hx11
                try clear c14
                try clear c17
                try clear c18
                try clear c18b0
                try clear c19
                try clear c19b0
                try clear c20
                try clear c20b0
                try clear c21
                try clear c21b0
                try clear c22
                try clear c25
                try clear c28
                try clear hcz10_0
                try clear hcz10_1
                try clear hcz10_2
                try clear hcz12_0
                try clear hcz12_1
                try clear hcz12_2
                try clear hcz13_0
                try clear hcz13_1
                try clear hcz13_2
                try clear hcz15_0
                try clear hcz15_1
                try clear hcz15_2
                try clear hcz16_0
                try clear hcz16_1
                try clear hcz16_2
                try clear hcz23_0
                try clear hcz23_1
                try clear hcz23_2
                try clear hcz26_0
                try clear hcz26_1
                try clear hcz26_2
                try clear hcz29_0
                try clear hcz29_1
                try clear hcz29_2
                try clear hcz9_0
                try clear hcz9_1
                try clear hcz9_2
                try clear hfz10_0
                try clear hfz10_1
                try clear hfz10_2
                try clear hfz12_0
                try clear hfz12_1
                try clear hfz12_2
                try clear hfz13_0
                try clear hfz13_1
                try clear hfz13_2
                try clear hfz15_0
                try clear hfz15_1
                try clear hfz15_2
                try clear hfz16_0
                try clear hfz16_1
                try clear hfz16_2
                try clear hfz23_0
                try clear hfz23_1
                try clear hfz23_2
                try clear hfz26_0
                try clear hfz26_1
                try clear hfz26_2
                try clear hfz29_0
                try clear hfz29_1
                try clear hfz29_2
                try clear hfz9_0
                try clear hfz9_1
                try clear hfz9_2
                try clear hx111_0
                try clear hx111_1
                try clear hx112_0
                try clear hx112_1
                try clear p111
                try clear p112
                try clear p2
                try clear q111
                try clear q112
                obtain ⟨x6_3, rfl, HA, HK3, BK109, BK110, HB⟩ := hrel
                cases gk with
                | zero => exact absurd HA.out (by simp [colloquyref03_Same.l1])
                | succ k3 =>
                  have H := HA.out
                  clear HA
                  simp only [colloquyref03_Same.l1] at H
                  by_cases c30 : x6_3 < (l0_2.length : Int)
                  · rw [if_pos c30] at H
                    have c30b0 : decide (x6_3 < (l0_2.length : Int)) = true := decide_eq_true c30
                    clear c30
                    by_cases c31 : 0 ≤ x6_3
                    · rw [if_pos c31] at H
                      have c31b0 : decide (0 ≤ x6_3) = true := decide_eq_true c31
                      clear c31
                      by_cases c32 : x6_3 < (l1_2.length : Int)
                      · rw [if_pos c32] at H
                        have c32b0 : decide (x6_3 < (l1_2.length : Int)) = true := decide_eq_true c32
                        clear c32
                        replace H := Option.bind_eq_some_iff.mp H
                        obtain ⟨t115, A330, H⟩ := H
                        replace H : (if t115 = true then (colloquyref03_Same.l1 k3 (wrap64 (x6_3 + 1)) a0_0 l0_1 l0_2 a1_0 l1_1 l1_2) else (some false)) = some r := H
                        have A33 := Aside0.mk A330
                        clear A330
                        by_cases c34 : t115 = true
                        · subst c34
                          have H1 : (colloquyref03_Same.l1 k3 (wrap64 (x6_3 + 1)) a0_0 l0_1 l0_2 a1_0 l1_1 l1_2) = some r := by rw [if_pos rfl] at H; exact H
                          clear H
                          have H := H1
                          clear H1
                          have H' := Aside0.mk H
                          clear H
                          have hnb35 := NB109_110.out
                          have hnc35 := NB110_109.out
                          have hcz36_0 : wr.cell? ⟨gb109, 0, none⟩ = some (.int .i64 a0_0) := (blk_cell BK109.out 0).trans rfl
                          have hcz36_1 : wr.cell? ⟨gb109, 1, none⟩ = some (.slice A0_1 l0_1.length c0_1) := (blk_cell BK109.out 1).trans rfl
                          have hcz36_2 : wr.cell? ⟨gb109, 2, none⟩ = some (.slice A0_2 l0_2.length c0_2) := (blk_cell BK109.out 2).trans rfl
                          have hfz36_0 := blk_frozen BK109.out 0
                          have hfz36_1 := blk_frozen BK109.out 1
                          have hfz36_2 := blk_frozen BK109.out 2
                          try go_wp2
                          have n0_ := Aside0.mk (blk_drew BK109.out)
                          have n1_ := Aside0.mk (blk_drew BK110.out)
                          have n2_ := Aside0.mk (below_drew1 HB.out)
                          clear BK109
                          clear BK110
                          clear HB
                          have BK109 := n0_
                          have BK110 := n1_
                          have HB := n2_
                          clear n0_ n1_ n2_
                          have p113 : 0 ≤ (x6_3 : Int) := of_decide_eq_true (by first | (with_reducible assumption) | assumption)
                          have q113 : x6_3 < (l0_2.length : Int) := of_decide_eq_true (by first | (with_reducible assumption) | assumption)
                          obtain ⟨ad113, A113_1, c113_1, A113_2, c113_2, e113, hx113_0, hx113_1, hx113_2, hl113_1, hi113_1, hl113_2, hi113_2⟩ := at_T29 HR0_2.out x6_3 p113 q113
                          have hw113_2 := hx113_2
                          have hw113_1 := hx113_1
                          have hw113_0 := hx113_0
                          cases e113
                          replace hx113_0 := (HB.out.cell (World.block_lt_of_cell? w _ hx113_0)).trans hx113_0
                          replace hx113_1 := (HB.out.cell (World.block_lt_of_cell? w _ hx113_1)).trans hx113_1
                          replace hx113_2 := (HB.out.cell (World.block_lt_of_cell? w _ hx113_2)).trans hx113_2
                          have HR113_1 := Aside0.mk hi113_1
                          have HC113_1 := Aside0.mk hl113_1
                          clear hi113_1 hl113_1
                          have HR113_2 := Aside0.mk hi113_2
                          have HC113_2 := Aside0.mk hl113_2
                          clear hi113_2 hl113_2
                          replace p113 := eq_true p113
                          replace q113 := eq_true q113
                          have p114 : 0 ≤ (x6_3 : Int) := of_decide_eq_true (by first | (with_reducible assumption) | assumption)
                          have q114 : x6_3 < (l1_2.length : Int) := of_decide_eq_true (by first | (with_reducible assumption) | assumption)
                          obtain ⟨ad114, A114_1, c114_1, A114_2, c114_2, e114, hx114_0, hx114_1, hx114_2, hl114_1, hi114_1, hl114_2, hi114_2⟩ := at_T29 HR1_2.out x6_3 p114 q114
                          have hw114_2 := hx114_2
                          have hw114_1 := hx114_1
                          have hw114_0 := hx114_0
                          cases e114
                          replace hx114_0 := (HB.out.cell (World.block_lt_of_cell? w _ hx114_0)).trans hx114_0
                          replace hx114_1 := (HB.out.cell (World.block_lt_of_cell? w _ hx114_1)).trans hx114_1
                          replace hx114_2 := (HB.out.cell (World.block_lt_of_cell? w _ hx114_2)).trans hx114_2
                          have HR114_1 := Aside0.mk hi114_1
                          have HC114_1 := Aside0.mk hl114_1
                          clear hi114_1 hl114_1
                          have HR114_2 := Aside0.mk hi114_2
                          have HC114_2 := Aside0.mk hl114_2
                          clear hi114_2 hl114_2
                          replace p114 := eq_true p114
                          replace q114 := eq_true q114
                          refine start_ (n := 12) (S := fun w' => w'.cell? ⟨gb109, 0, none⟩ = some (.int .i64 a0_0) ∧ w'.cell? ⟨gb109, 1, none⟩ = some (.slice A0_1 l0_1.length c0_1) ∧ w'.cell? ⟨gb109, 2, none⟩ = some (.slice (some ad113) l0_2.length c0_2) ∧ w'.cell? ⟨gb110, 0, none⟩ = some (.int .i64 a1_0) ∧ w'.cell? ⟨gb110, 1, none⟩ = some (.slice A1_1 l1_1.length c1_1) ∧ w'.cell? ⟨gb110, 2, none⟩ = some (.slice (some ad114) l1_2.length c1_2) ∧ w'.cell? (ad113.add ((x6_3).toNat * 3)) = some (.int .i64 ((rd_T29 l0_2 x6_3).f0)) ∧ w'.cell? ⟨(ad113.add ((x6_3).toNat * 3)).block, (ad113.add ((x6_3).toNat * 3)).off + 1, none⟩ = some (.slice A113_1 ((rd_T29 l0_2 x6_3).f1).length c113_1) ∧ w'.cell? ⟨(ad113.add ((x6_3).toNat * 3)).block, (ad113.add ((x6_3).toNat * 3)).off + 2, none⟩ = some (.slice A113_2 ((rd_T29 l0_2 x6_3).f2).length c113_2) ∧ w'.cell? (ad114.add ((x6_3).toNat * 3)) = some (.int .i64 ((rd_T29 l1_2 x6_3).f0)) ∧ w'.cell? ⟨(ad114.add ((x6_3).toNat * 3)).block, (ad114.add ((x6_3).toNat * 3)).off + 1, none⟩ = some (.slice A114_1 ((rd_T29 l1_2 x6_3).f1).length c114_1) ∧ w'.cell? ⟨(ad114.add ((x6_3).toNat * 3)).block, (ad114.add ((x6_3).toNat * 3)).off + 2, none⟩ = some (.slice A114_2 ((rd_T29 l1_2 x6_3).f2).length c114_2)) (ds := []) #[false, false, false, false, false, false, false, false, false, false, false, false] (by kernel_rfl) rfl rfl ⟨(blk_cell BK109.out 0).trans rfl, (blk_cell BK109.out 1).trans rfl, (blk_cell BK109.out 2).trans rfl, (blk_cell BK110.out 0).trans rfl, (blk_cell BK110.out 1).trans rfl, (blk_cell BK110.out 2).trans rfl, ((HB.out.cell (World.block_lt_of_cell? w _ hw113_0)).trans hw113_0), ((HB.out.cell (World.block_lt_of_cell? w _ hw113_1)).trans hw113_1), ((HB.out.cell (World.block_lt_of_cell? w _ hw113_2)).trans hw113_2), ((HB.out.cell (World.block_lt_of_cell? w _ hw114_0)).trans hw114_0), ((HB.out.cell (World.block_lt_of_cell? w _ hw114_1)).trans hw114_1), ((HB.out.cell (World.block_lt_of_cell? w _ hw114_2)).trans hw114_2)⟩ (fun hHeld => ?_); refine with_tabW colloquyref03_Same.tab11 colloquyref03_Same.bits11 (fun HT_ HW_ => ?_)
                          generalize wr.drew = w37 at BK109 BK110 HB HR113_1 HR113_2 HR114_1 HR114_2 hx113_0 hx113_1 hx113_2 hx114_0 hx114_1 hx114_2 hHeld ⊢
                          refine pure_ (i := 0) (N := some 55) (v := ?_) (a' := ?_) #[true, false, false, false, false, false, false, false, false, false, false, false] rfl rfl (any_of HT_.out (by kernel_rfl)) (fun _ _ _ h => h) (Or.inl ⟨by rfl, ?_⟩) ?_ ?_
                          rotate_left
                          · intro w'
                            go_simp
                            with_reducible rfl
                          rotate_left
                          · simp only [Act.put, List.setIfInBounds_toArray, List.set_cons_zero, List.set_cons_succ, i64_w, i32_w]
                            rfl
                          refine pure_ (i := 2) (N := some 57) (v := ?_) (a' := ?_) #[true, false, true, false, false, false, false, false, false, false, false, false] rfl rfl (any_of HT_.out (by kernel_rfl)) (fun _ _ _ h => h) (Or.inl ⟨by rfl, ?_⟩) ?_ ?_
                          rotate_left
                          · intro w'
                            go_simp
                            with_reducible rfl
                          rotate_left
                          · simp only [Act.put, List.setIfInBounds_toArray, List.set_cons_zero, List.set_cons_succ, i64_w, i32_w]
                            rfl
                          refine pure_ (i := 5) (N := some 60) (v := ?_) (a' := ?_) #[true, false, true, false, false, true, false, false, false, false, false, false] rfl rfl (any_of HT_.out (by kernel_rfl)) (fun _ _ _ h => h) (Or.inl ⟨by rfl, ?_⟩) ?_ ?_
                          rotate_left
                          · intro w'
                            go_simp
                            with_reducible rfl
                          rotate_left
                          · simp only [Act.put, List.setIfInBounds_toArray, List.set_cons_zero, List.set_cons_succ, i64_w, i32_w]
                            rfl
                          refine pure_ (i := 7) (N := some 62) (v := ?_) (a' := ?_) #[true, false, true, false, false, true, false, true, false, false, false, false] rfl rfl (any_of HT_.out (by kernel_rfl)) (fun _ _ _ h => h) (Or.inl ⟨by rfl, ?_⟩) ?_ ?_
                          rotate_left
                          · intro w'
                            go_simp
                            with_reducible rfl
                          rotate_left
                          · simp only [Act.put, List.setIfInBounds_toArray, List.set_cons_zero, List.set_cons_succ, i64_w, i32_w]
                            rfl
                          refine take_ (i := 1) (N := some 56) (v := ?_) (a' := ?_) #[true, true, true, false, false, true, false, true, false, false, false, false] rfl rfl (take_ofW HT_.out HW_.out (by kernel_rfl)) (fun _ _ _ h => h) (Or.inl ⟨by rfl, ?_⟩) hHeld ?_ ?_
                          rotate_left
                          · rintro w' ⟨s0, s1, s2, s3, s4, s5, s6, s7, s8, s9, s10, s11⟩
                            go_simp
                            with_reducible rfl
                          rotate_left
                          · simp only [Act.put, List.setIfInBounds_toArray, List.set_cons_zero, List.set_cons_succ, i64_w, i32_w]
                            rfl
                          refine pure_ (i := 3) (N := some 58) (v := ?_) (a' := ?_) #[true, true, true, true, false, true, false, true, false, false, false, false] rfl rfl (any_of HT_.out (by kernel_rfl)) (fun _ _ _ h => h) (Or.inl ⟨by rfl, ?_⟩) ?_ ?_
                          rotate_left
                          · intro w'
                            go_simp
                            with_reducible rfl
                          rotate_left
                          · simp only [Act.put, List.setIfInBounds_toArray, List.set_cons_zero, List.set_cons_succ, i64_w, i32_w]
                            rfl
                          refine take_ (i := 4) (N := some 59) (v := ?_) (a' := ?_) #[true, true, true, true, true, true, false, true, false, false, false, false] rfl rfl (take_ofW HT_.out HW_.out (by kernel_rfl)) (fun _ _ _ h => h) (Or.inl ⟨by rfl, ?_⟩) hHeld ?_ ?_
                          rotate_left
                          · rintro w' ⟨s0, s1, s2, s3, s4, s5, s6, s7, s8, s9, s10, s11⟩
                            go_simp
                            with_reducible rfl
                          rotate_left
                          · simp only [Act.put, List.setIfInBounds_toArray, List.set_cons_zero, List.set_cons_succ, i64_w, i32_w]
                            rfl
                          refine take_ (i := 6) (N := some 61) (v := ?_) (a' := ?_) #[true, true, true, true, true, true, true, true, false, false, false, false] rfl rfl (take_ofW HT_.out HW_.out (by kernel_rfl)) (fun _ _ _ h => h) (Or.inl ⟨by rfl, ?_⟩) hHeld ?_ ?_
                          rotate_left
                          · rintro w' ⟨s0, s1, s2, s3, s4, s5, s6, s7, s8, s9, s10, s11⟩
                            go_simp
                            with_reducible rfl
                          rotate_left
                          · simp only [Act.put, List.setIfInBounds_toArray, List.set_cons_zero, List.set_cons_succ, i64_w, i32_w]
                            rfl
                          refine pure_ (i := 8) (N := some 63) (v := ?_) (a' := ?_) #[true, true, true, true, true, true, true, true, true, false, false, false] rfl rfl (any_of HT_.out (by kernel_rfl)) (fun _ _ _ h => h) (Or.inl ⟨by rfl, ?_⟩) ?_ ?_
                          rotate_left
                          · intro w'
                            go_simp
                            with_reducible rfl
                          rotate_left
                          · simp only [Act.put, List.setIfInBounds_toArray, List.set_cons_zero, List.set_cons_succ, i64_w, i32_w]
                            rfl
                          refine take_ (i := 9) (N := some 64) (v := ?_) (a' := ?_) #[true, true, true, true, true, true, true, true, true, true, false, false] rfl rfl (take_ofW HT_.out HW_.out (by kernel_rfl)) (fun _ _ _ h => h) (Or.inl ⟨by rfl, ?_⟩) hHeld ?_ ?_
                          rotate_left
                          · rintro w' ⟨s0, s1, s2, s3, s4, s5, s6, s7, s8, s9, s10, s11⟩
                            go_simp
                            with_reducible rfl
                          rotate_left
                          · simp only [Act.put, List.setIfInBounds_toArray, List.set_cons_zero, List.set_cons_succ, i64_w, i32_w]
                            rfl
                          refine one_ (i := 10) (N := some 65) #[true, true, true, true, true, true, true, true, true, true, true, false] rfl rfl (one_of HT_.out (by kernel_rfl)) (by decide) (fun K hK => ?_)
                          refine goes_ Try.func5 (by kernel_rfl) rfl #[.agg #[.int .i64 ((rd_T29 l0_2 x6_3).f0), .slice A113_1 ((rd_T29 l0_2 x6_3).f1).length c113_1, .slice A113_2 ((rd_T29 l0_2 x6_3).f2).length c113_2], .agg #[.int .i64 ((rd_T29 l1_2 x6_3).f0), .slice A114_1 ((rd_T29 l1_2 x6_3).f1).length c114_1, .slice A114_2 ((rd_T29 l1_2 x6_3).f2).length c114_2]] (by rfl) rfl rfl (by (try simp only [List.map_toArray, List.map_cons, List.map_nil]); first | done | rfl | (simp only [List.length_drop, List.length_take]; rfl)) ?_
                          with_reducible refine (ih k3 (by have := HJ2.out; have := HK2.out; have := HK3.out; omega) ((rd_T29 l0_2 x6_3).f0) _ _ ((rd_T29 l0_2 x6_3).f1) _ _ ((rd_T29 l0_2 x6_3).f2) ((rd_T29 l1_2 x6_3).f0) _ _ ((rd_T29 l1_2 x6_3).f1) _ _ ((rd_T29 l1_2 x6_3).f2) true _ ?side1 ?side2 ?side3 ?side4 ?side5 ?side6 ?side7 ?side8 A33.out).mono ?_
                          (case side1 => repeat (first | exact (Kd.C_below HR113_1.out HB.out) | (with_reducible refine Kd.C_alloc ?_ _) | (with_reducible refine Kd.C_drewN ?_ _) | (with_reducible refine Kd.C_drew ?_)))
                          (case side2 => exact HC113_1.out)
                          (case side3 => repeat (first | exact (Kd.C_below HR113_2.out HB.out) | (with_reducible refine Kd.C_alloc ?_ _) | (with_reducible refine Kd.C_drewN ?_ _) | (with_reducible refine Kd.C_drew ?_)))
                          (case side4 => exact HC113_2.out)
                          (case side5 => repeat (first | exact (Kd.C_below HR114_1.out HB.out) | (with_reducible refine Kd.C_alloc ?_ _) | (with_reducible refine Kd.C_drewN ?_ _) | (with_reducible refine Kd.C_drew ?_)))
                          (case side6 => exact HC114_1.out)
                          (case side7 => repeat (first | exact (Kd.C_below HR114_2.out HB.out) | (with_reducible refine Kd.C_alloc ?_ _) | (with_reducible refine Kd.C_drewN ?_ _) | (with_reducible refine Kd.C_drew ?_)))
                          (case side8 => exact HC114_2.out)
                          rintro e w38 ⟨rfl, hb⟩
                          refine ⟨_, rfl, ?_⟩
                          have n0_ := Aside0.mk (blk_below (g := gb109) (o := .cells #[.int .i64 a0_0, .slice A0_1 l0_1.length c0_1, .slice (some ad113) l0_2.length c0_2] 29 (0, 0)) (by (with_reducible repeat (first | refine blk_drewN ?_ _ | refine blk_drew ?_ | refine blk_alloc ?_ _)); exact BK109.out) hb)
                          have n1_ := Aside0.mk (blk_below (g := gb110) (o := .cells #[.int .i64 a1_0, .slice A1_1 l1_1.length c1_1, .slice (some ad114) l1_2.length c1_2] 29 (0, 0)) (by (with_reducible repeat (first | refine blk_drewN ?_ _ | refine blk_drew ?_ | refine blk_alloc ?_ _)); exact BK110.out) hb)
                          have n2_ := Aside0.mk (below_step (by repeat (first | (with_reducible first | exact HB.out | apply below_alloc | apply pw_below_drewN | apply below_drew1 | refine below_set ?_ GE109.out | refine below_set ?_ GE110.out) | exact HB.out)) hb)
                          clear BK109
                          clear BK110
                          clear HB
                          have BK109 := n0_
                          have BK110 := n1_
                          have HB := n2_
                          clear n0_ n1_ n2_
                          (try clear hb)
                          (try clear hb2)
                          (try clear hk)
                          (try clear hi)
                          refine hK.out _ _ ⟨(blk_cell BK109.out 0).trans rfl, (blk_cell BK109.out 1).trans rfl, (blk_cell BK109.out 2).trans rfl, (blk_cell BK110.out 0).trans rfl, (blk_cell BK110.out 1).trans rfl, (blk_cell BK110.out 2).trans rfl, ((HB.out.cell (World.block_lt_of_cell? w _ hw113_0)).trans hw113_0), ((HB.out.cell (World.block_lt_of_cell? w _ hw113_1)).trans hw113_1), ((HB.out.cell (World.block_lt_of_cell? w _ hw113_2)).trans hw113_2), ((HB.out.cell (World.block_lt_of_cell? w _ hw114_0)).trans hw114_0), ((HB.out.cell (World.block_lt_of_cell? w _ hw114_1)).trans hw114_1), ((HB.out.cell (World.block_lt_of_cell? w _ hw114_2)).trans hw114_2)⟩ (fun hHeld => ?_)
                          clear hK K
                          refine norm_ (a' := ?_) ?_ ?_
                          rotate_left
                          · show Act.put _ (some 65) _ = _
                            simp only [Act.put, List.setIfInBounds_toArray, List.set_cons_zero, List.set_cons_succ, i64_w, i32_w]
                            rfl
                          refine pure_ (i := 11) (N := some 66) (v := ?_) (a' := ?_) #[true, true, true, true, true, true, true, true, true, true, true, true] rfl rfl (any_of HT_.out (by kernel_rfl)) (fun _ _ _ h => h) (Or.inl ⟨by rfl, ?_⟩) ?_ ?_
                          rotate_left
                          · intro w'
                            go_simp
                            with_reducible rfl
                          rotate_left
                          · simp only [Act.put, List.setIfInBounds_toArray, List.set_cons_zero, List.set_cons_succ, i64_w, i32_w]
                            rfl
                          refine done_ (done_of HT_.out (by kernel_rfl)) ?_
                          try go_wp2
                          go_roundg k3
                          case measure => have := HJ2.out; have := HK2.out; have := HK3.out; omega
                          case rel => exact ⟨(wrap64 (x6_3 + 1)), (by first | rfl | (simp; done) | (simp [*]; done)), H', ⟨by have := HJ2.out; have := HK2.out; have := HK3.out; omega⟩, ⟨by (with_reducible repeat (first | refine blk_drewN ?_ _ | refine blk_drew ?_ | refine blk_alloc ?_ _)); exact BK109.out⟩, ⟨by (with_reducible repeat (first | refine blk_drewN ?_ _ | refine blk_drew ?_ | refine blk_alloc ?_ _)); exact BK110.out⟩, ⟨by repeat (first | (with_reducible first | exact HB.out | apply below_alloc | apply pw_below_drewN | apply below_drew1 | refine below_set ?_ GE109.out | refine below_set ?_ GE110.out) | exact HB.out)⟩⟩
                        · replace c34 := Bool.eq_false_iff.mpr c34
                          subst c34
                          have H1 : (some false) = some r := by rw [if_neg (show ¬ (false = true) by decide)] at H; exact H
                          clear H
                          have H := H1
                          clear H1
                          obtain rfl := Option.some.inj H
                          have hnb39 := NB109_110.out
                          have hnc39 := NB110_109.out
                          have hcz40_0 : wr.cell? ⟨gb109, 0, none⟩ = some (.int .i64 a0_0) := (blk_cell BK109.out 0).trans rfl
                          have hcz40_1 : wr.cell? ⟨gb109, 1, none⟩ = some (.slice A0_1 l0_1.length c0_1) := (blk_cell BK109.out 1).trans rfl
                          have hcz40_2 : wr.cell? ⟨gb109, 2, none⟩ = some (.slice A0_2 l0_2.length c0_2) := (blk_cell BK109.out 2).trans rfl
                          have hfz40_0 := blk_frozen BK109.out 0
                          have hfz40_1 := blk_frozen BK109.out 1
                          have hfz40_2 := blk_frozen BK109.out 2
                          try go_wp2
                          have n0_ := Aside0.mk (blk_drew BK109.out)
                          have n1_ := Aside0.mk (blk_drew BK110.out)
                          have n2_ := Aside0.mk (below_drew1 HB.out)
                          clear BK109
                          clear BK110
                          clear HB
                          have BK109 := n0_
                          have BK110 := n1_
                          have HB := n2_
                          clear n0_ n1_ n2_
                          have p113 : 0 ≤ (x6_3 : Int) := of_decide_eq_true (by first | (with_reducible assumption) | assumption)
                          have q113 : x6_3 < (l0_2.length : Int) := of_decide_eq_true (by first | (with_reducible assumption) | assumption)
                          obtain ⟨ad113, A113_1, c113_1, A113_2, c113_2, e113, hx113_0, hx113_1, hx113_2, hl113_1, hi113_1, hl113_2, hi113_2⟩ := at_T29 HR0_2.out x6_3 p113 q113
                          have hw113_2 := hx113_2
                          have hw113_1 := hx113_1
                          have hw113_0 := hx113_0
                          cases e113
                          replace hx113_0 := (HB.out.cell (World.block_lt_of_cell? w _ hx113_0)).trans hx113_0
                          replace hx113_1 := (HB.out.cell (World.block_lt_of_cell? w _ hx113_1)).trans hx113_1
                          replace hx113_2 := (HB.out.cell (World.block_lt_of_cell? w _ hx113_2)).trans hx113_2
                          have HR113_1 := Aside0.mk hi113_1
                          have HC113_1 := Aside0.mk hl113_1
                          clear hi113_1 hl113_1
                          have HR113_2 := Aside0.mk hi113_2
                          have HC113_2 := Aside0.mk hl113_2
                          clear hi113_2 hl113_2
                          replace p113 := eq_true p113
                          replace q113 := eq_true q113
                          have p114 : 0 ≤ (x6_3 : Int) := of_decide_eq_true (by first | (with_reducible assumption) | assumption)
                          have q114 : x6_3 < (l1_2.length : Int) := of_decide_eq_true (by first | (with_reducible assumption) | assumption)
                          obtain ⟨ad114, A114_1, c114_1, A114_2, c114_2, e114, hx114_0, hx114_1, hx114_2, hl114_1, hi114_1, hl114_2, hi114_2⟩ := at_T29 HR1_2.out x6_3 p114 q114
                          have hw114_2 := hx114_2
                          have hw114_1 := hx114_1
                          have hw114_0 := hx114_0
                          cases e114
                          replace hx114_0 := (HB.out.cell (World.block_lt_of_cell? w _ hx114_0)).trans hx114_0
                          replace hx114_1 := (HB.out.cell (World.block_lt_of_cell? w _ hx114_1)).trans hx114_1
                          replace hx114_2 := (HB.out.cell (World.block_lt_of_cell? w _ hx114_2)).trans hx114_2
                          have HR114_1 := Aside0.mk hi114_1
                          have HC114_1 := Aside0.mk hl114_1
                          clear hi114_1 hl114_1
                          have HR114_2 := Aside0.mk hi114_2
                          have HC114_2 := Aside0.mk hl114_2
                          clear hi114_2 hl114_2
                          replace p114 := eq_true p114
                          replace q114 := eq_true q114
                          refine start_ (n := 12) (S := fun w' => w'.cell? ⟨gb109, 0, none⟩ = some (.int .i64 a0_0) ∧ w'.cell? ⟨gb109, 1, none⟩ = some (.slice A0_1 l0_1.length c0_1) ∧ w'.cell? ⟨gb109, 2, none⟩ = some (.slice (some ad113) l0_2.length c0_2) ∧ w'.cell? ⟨gb110, 0, none⟩ = some (.int .i64 a1_0) ∧ w'.cell? ⟨gb110, 1, none⟩ = some (.slice A1_1 l1_1.length c1_1) ∧ w'.cell? ⟨gb110, 2, none⟩ = some (.slice (some ad114) l1_2.length c1_2) ∧ w'.cell? (ad113.add ((x6_3).toNat * 3)) = some (.int .i64 ((rd_T29 l0_2 x6_3).f0)) ∧ w'.cell? ⟨(ad113.add ((x6_3).toNat * 3)).block, (ad113.add ((x6_3).toNat * 3)).off + 1, none⟩ = some (.slice A113_1 ((rd_T29 l0_2 x6_3).f1).length c113_1) ∧ w'.cell? ⟨(ad113.add ((x6_3).toNat * 3)).block, (ad113.add ((x6_3).toNat * 3)).off + 2, none⟩ = some (.slice A113_2 ((rd_T29 l0_2 x6_3).f2).length c113_2) ∧ w'.cell? (ad114.add ((x6_3).toNat * 3)) = some (.int .i64 ((rd_T29 l1_2 x6_3).f0)) ∧ w'.cell? ⟨(ad114.add ((x6_3).toNat * 3)).block, (ad114.add ((x6_3).toNat * 3)).off + 1, none⟩ = some (.slice A114_1 ((rd_T29 l1_2 x6_3).f1).length c114_1) ∧ w'.cell? ⟨(ad114.add ((x6_3).toNat * 3)).block, (ad114.add ((x6_3).toNat * 3)).off + 2, none⟩ = some (.slice A114_2 ((rd_T29 l1_2 x6_3).f2).length c114_2)) (ds := []) #[false, false, false, false, false, false, false, false, false, false, false, false] (by kernel_rfl) rfl rfl ⟨(blk_cell BK109.out 0).trans rfl, (blk_cell BK109.out 1).trans rfl, (blk_cell BK109.out 2).trans rfl, (blk_cell BK110.out 0).trans rfl, (blk_cell BK110.out 1).trans rfl, (blk_cell BK110.out 2).trans rfl, ((HB.out.cell (World.block_lt_of_cell? w _ hw113_0)).trans hw113_0), ((HB.out.cell (World.block_lt_of_cell? w _ hw113_1)).trans hw113_1), ((HB.out.cell (World.block_lt_of_cell? w _ hw113_2)).trans hw113_2), ((HB.out.cell (World.block_lt_of_cell? w _ hw114_0)).trans hw114_0), ((HB.out.cell (World.block_lt_of_cell? w _ hw114_1)).trans hw114_1), ((HB.out.cell (World.block_lt_of_cell? w _ hw114_2)).trans hw114_2)⟩ (fun hHeld => ?_); refine with_tabW colloquyref03_Same.tab11 colloquyref03_Same.bits11 (fun HT_ HW_ => ?_)
                          generalize wr.drew = w41 at BK109 BK110 HB HR113_1 HR113_2 HR114_1 HR114_2 hx113_0 hx113_1 hx113_2 hx114_0 hx114_1 hx114_2 hHeld ⊢
                          refine pure_ (i := 0) (N := some 55) (v := ?_) (a' := ?_) #[true, false, false, false, false, false, false, false, false, false, false, false] rfl rfl (any_of HT_.out (by kernel_rfl)) (fun _ _ _ h => h) (Or.inl ⟨by rfl, ?_⟩) ?_ ?_
                          rotate_left
                          · intro w'
                            go_simp
                            with_reducible rfl
                          rotate_left
                          · simp only [Act.put, List.setIfInBounds_toArray, List.set_cons_zero, List.set_cons_succ, i64_w, i32_w]
                            rfl
                          refine pure_ (i := 2) (N := some 57) (v := ?_) (a' := ?_) #[true, false, true, false, false, false, false, false, false, false, false, false] rfl rfl (any_of HT_.out (by kernel_rfl)) (fun _ _ _ h => h) (Or.inl ⟨by rfl, ?_⟩) ?_ ?_
                          rotate_left
                          · intro w'
                            go_simp
                            with_reducible rfl
                          rotate_left
                          · simp only [Act.put, List.setIfInBounds_toArray, List.set_cons_zero, List.set_cons_succ, i64_w, i32_w]
                            rfl
                          refine pure_ (i := 5) (N := some 60) (v := ?_) (a' := ?_) #[true, false, true, false, false, true, false, false, false, false, false, false] rfl rfl (any_of HT_.out (by kernel_rfl)) (fun _ _ _ h => h) (Or.inl ⟨by rfl, ?_⟩) ?_ ?_
                          rotate_left
                          · intro w'
                            go_simp
                            with_reducible rfl
                          rotate_left
                          · simp only [Act.put, List.setIfInBounds_toArray, List.set_cons_zero, List.set_cons_succ, i64_w, i32_w]
                            rfl
                          refine pure_ (i := 7) (N := some 62) (v := ?_) (a' := ?_) #[true, false, true, false, false, true, false, true, false, false, false, false] rfl rfl (any_of HT_.out (by kernel_rfl)) (fun _ _ _ h => h) (Or.inl ⟨by rfl, ?_⟩) ?_ ?_
                          rotate_left
                          · intro w'
                            go_simp
                            with_reducible rfl
                          rotate_left
                          · simp only [Act.put, List.setIfInBounds_toArray, List.set_cons_zero, List.set_cons_succ, i64_w, i32_w]
                            rfl
                          refine take_ (i := 1) (N := some 56) (v := ?_) (a' := ?_) #[true, true, true, false, false, true, false, true, false, false, false, false] rfl rfl (take_ofW HT_.out HW_.out (by kernel_rfl)) (fun _ _ _ h => h) (Or.inl ⟨by rfl, ?_⟩) hHeld ?_ ?_
                          rotate_left
                          · rintro w' ⟨s0, s1, s2, s3, s4, s5, s6, s7, s8, s9, s10, s11⟩
                            go_simp
                            with_reducible rfl
                          rotate_left
                          · simp only [Act.put, List.setIfInBounds_toArray, List.set_cons_zero, List.set_cons_succ, i64_w, i32_w]
                            rfl
                          refine pure_ (i := 3) (N := some 58) (v := ?_) (a' := ?_) #[true, true, true, true, false, true, false, true, false, false, false, false] rfl rfl (any_of HT_.out (by kernel_rfl)) (fun _ _ _ h => h) (Or.inl ⟨by rfl, ?_⟩) ?_ ?_
                          rotate_left
                          · intro w'
                            go_simp
                            with_reducible rfl
                          rotate_left
                          · simp only [Act.put, List.setIfInBounds_toArray, List.set_cons_zero, List.set_cons_succ, i64_w, i32_w]
                            rfl
                          refine take_ (i := 4) (N := some 59) (v := ?_) (a' := ?_) #[true, true, true, true, true, true, false, true, false, false, false, false] rfl rfl (take_ofW HT_.out HW_.out (by kernel_rfl)) (fun _ _ _ h => h) (Or.inl ⟨by rfl, ?_⟩) hHeld ?_ ?_
                          rotate_left
                          · rintro w' ⟨s0, s1, s2, s3, s4, s5, s6, s7, s8, s9, s10, s11⟩
                            go_simp
                            with_reducible rfl
                          rotate_left
                          · simp only [Act.put, List.setIfInBounds_toArray, List.set_cons_zero, List.set_cons_succ, i64_w, i32_w]
                            rfl
                          refine take_ (i := 6) (N := some 61) (v := ?_) (a' := ?_) #[true, true, true, true, true, true, true, true, false, false, false, false] rfl rfl (take_ofW HT_.out HW_.out (by kernel_rfl)) (fun _ _ _ h => h) (Or.inl ⟨by rfl, ?_⟩) hHeld ?_ ?_
                          rotate_left
                          · rintro w' ⟨s0, s1, s2, s3, s4, s5, s6, s7, s8, s9, s10, s11⟩
                            go_simp
                            with_reducible rfl
                          rotate_left
                          · simp only [Act.put, List.setIfInBounds_toArray, List.set_cons_zero, List.set_cons_succ, i64_w, i32_w]
                            rfl
                          refine pure_ (i := 8) (N := some 63) (v := ?_) (a' := ?_) #[true, true, true, true, true, true, true, true, true, false, false, false] rfl rfl (any_of HT_.out (by kernel_rfl)) (fun _ _ _ h => h) (Or.inl ⟨by rfl, ?_⟩) ?_ ?_
                          rotate_left
                          · intro w'
                            go_simp
                            with_reducible rfl
                          rotate_left
                          · simp only [Act.put, List.setIfInBounds_toArray, List.set_cons_zero, List.set_cons_succ, i64_w, i32_w]
                            rfl
                          refine take_ (i := 9) (N := some 64) (v := ?_) (a' := ?_) #[true, true, true, true, true, true, true, true, true, true, false, false] rfl rfl (take_ofW HT_.out HW_.out (by kernel_rfl)) (fun _ _ _ h => h) (Or.inl ⟨by rfl, ?_⟩) hHeld ?_ ?_
                          rotate_left
                          · rintro w' ⟨s0, s1, s2, s3, s4, s5, s6, s7, s8, s9, s10, s11⟩
                            go_simp
                            with_reducible rfl
                          rotate_left
                          · simp only [Act.put, List.setIfInBounds_toArray, List.set_cons_zero, List.set_cons_succ, i64_w, i32_w]
                            rfl
                          refine one_ (i := 10) (N := some 65) #[true, true, true, true, true, true, true, true, true, true, true, false] rfl rfl (one_of HT_.out (by kernel_rfl)) (by decide) (fun K hK => ?_)
                          refine goes_ Try.func5 (by kernel_rfl) rfl #[.agg #[.int .i64 ((rd_T29 l0_2 x6_3).f0), .slice A113_1 ((rd_T29 l0_2 x6_3).f1).length c113_1, .slice A113_2 ((rd_T29 l0_2 x6_3).f2).length c113_2], .agg #[.int .i64 ((rd_T29 l1_2 x6_3).f0), .slice A114_1 ((rd_T29 l1_2 x6_3).f1).length c114_1, .slice A114_2 ((rd_T29 l1_2 x6_3).f2).length c114_2]] (by rfl) rfl rfl (by (try simp only [List.map_toArray, List.map_cons, List.map_nil]); first | done | rfl | (simp only [List.length_drop, List.length_take]; rfl)) ?_
                          with_reducible refine (ih k3 (by have := HJ2.out; have := HK2.out; have := HK3.out; omega) ((rd_T29 l0_2 x6_3).f0) _ _ ((rd_T29 l0_2 x6_3).f1) _ _ ((rd_T29 l0_2 x6_3).f2) ((rd_T29 l1_2 x6_3).f0) _ _ ((rd_T29 l1_2 x6_3).f1) _ _ ((rd_T29 l1_2 x6_3).f2) false _ ?side1 ?side2 ?side3 ?side4 ?side5 ?side6 ?side7 ?side8 A33.out).mono ?_
                          (case side1 => repeat (first | exact (Kd.C_below HR113_1.out HB.out) | (with_reducible refine Kd.C_alloc ?_ _) | (with_reducible refine Kd.C_drewN ?_ _) | (with_reducible refine Kd.C_drew ?_)))
                          (case side2 => exact HC113_1.out)
                          (case side3 => repeat (first | exact (Kd.C_below HR113_2.out HB.out) | (with_reducible refine Kd.C_alloc ?_ _) | (with_reducible refine Kd.C_drewN ?_ _) | (with_reducible refine Kd.C_drew ?_)))
                          (case side4 => exact HC113_2.out)
                          (case side5 => repeat (first | exact (Kd.C_below HR114_1.out HB.out) | (with_reducible refine Kd.C_alloc ?_ _) | (with_reducible refine Kd.C_drewN ?_ _) | (with_reducible refine Kd.C_drew ?_)))
                          (case side6 => exact HC114_1.out)
                          (case side7 => repeat (first | exact (Kd.C_below HR114_2.out HB.out) | (with_reducible refine Kd.C_alloc ?_ _) | (with_reducible refine Kd.C_drewN ?_ _) | (with_reducible refine Kd.C_drew ?_)))
                          (case side8 => exact HC114_2.out)
                          rintro e w42 ⟨rfl, hb⟩
                          refine ⟨_, rfl, ?_⟩
                          have n0_ := Aside0.mk (blk_below (g := gb109) (o := .cells #[.int .i64 a0_0, .slice A0_1 l0_1.length c0_1, .slice (some ad113) l0_2.length c0_2] 29 (0, 0)) (by (with_reducible repeat (first | refine blk_drewN ?_ _ | refine blk_drew ?_ | refine blk_alloc ?_ _)); exact BK109.out) hb)
                          have n1_ := Aside0.mk (blk_below (g := gb110) (o := .cells #[.int .i64 a1_0, .slice A1_1 l1_1.length c1_1, .slice (some ad114) l1_2.length c1_2] 29 (0, 0)) (by (with_reducible repeat (first | refine blk_drewN ?_ _ | refine blk_drew ?_ | refine blk_alloc ?_ _)); exact BK110.out) hb)
                          have n2_ := Aside0.mk (below_step (by repeat (first | (with_reducible first | exact HB.out | apply below_alloc | apply pw_below_drewN | apply below_drew1 | refine below_set ?_ GE109.out | refine below_set ?_ GE110.out) | exact HB.out)) hb)
                          clear BK109
                          clear BK110
                          clear HB
                          have BK109 := n0_
                          have BK110 := n1_
                          have HB := n2_
                          clear n0_ n1_ n2_
                          (try clear hb)
                          (try clear hb2)
                          (try clear hk)
                          (try clear hi)
                          refine hK.out _ _ ⟨(blk_cell BK109.out 0).trans rfl, (blk_cell BK109.out 1).trans rfl, (blk_cell BK109.out 2).trans rfl, (blk_cell BK110.out 0).trans rfl, (blk_cell BK110.out 1).trans rfl, (blk_cell BK110.out 2).trans rfl, ((HB.out.cell (World.block_lt_of_cell? w _ hw113_0)).trans hw113_0), ((HB.out.cell (World.block_lt_of_cell? w _ hw113_1)).trans hw113_1), ((HB.out.cell (World.block_lt_of_cell? w _ hw113_2)).trans hw113_2), ((HB.out.cell (World.block_lt_of_cell? w _ hw114_0)).trans hw114_0), ((HB.out.cell (World.block_lt_of_cell? w _ hw114_1)).trans hw114_1), ((HB.out.cell (World.block_lt_of_cell? w _ hw114_2)).trans hw114_2)⟩ (fun hHeld => ?_)
                          clear hK K
                          refine norm_ (a' := ?_) ?_ ?_
                          rotate_left
                          · show Act.put _ (some 65) _ = _
                            simp only [Act.put, List.setIfInBounds_toArray, List.set_cons_zero, List.set_cons_succ, i64_w, i32_w]
                            rfl
                          refine pure_ (i := 11) (N := some 66) (v := ?_) (a' := ?_) #[true, true, true, true, true, true, true, true, true, true, true, true] rfl rfl (any_of HT_.out (by kernel_rfl)) (fun _ _ _ h => h) (Or.inl ⟨by rfl, ?_⟩) ?_ ?_
                          rotate_left
                          · intro w'
                            go_simp
                            with_reducible rfl
                          rotate_left
                          · simp only [Act.put, List.setIfInBounds_toArray, List.set_cons_zero, List.set_cons_succ, i64_w, i32_w]
                            rfl
                          refine done_ (done_of HT_.out (by kernel_rfl)) ?_
                          try go_wp2
                          go_ret
                          exact ⟨by first | rfl | (simp [errW_none, errW_some] <;> rfl) | (simp [*, errW_none, errW_some] <;> rfl), by repeat (first | (with_reducible first | exact HB.out | apply below_alloc | apply pw_below_drewN | apply below_drew1 | refine below_set ?_ GE109.out | refine below_set ?_ GE110.out) | exact HB.out)⟩
                      · rw [if_neg c32] at H
                        exact absurd H (by simp)
                    · rw [if_neg c31] at H
                      exact absurd H (by simp)
                  · rw [if_neg c30] at H
                    have c30b0 : decide (x6_3 < (l0_2.length : Int)) = false := decide_eq_false c30
                    clear c30
                    obtain rfl := Option.some.inj H
                    have hnb43 := NB109_110.out
                    have hnc43 := NB110_109.out
                    have hcz44_0 : wr.cell? ⟨gb109, 0, none⟩ = some (.int .i64 a0_0) := (blk_cell BK109.out 0).trans rfl
                    have hcz44_1 : wr.cell? ⟨gb109, 1, none⟩ = some (.slice A0_1 l0_1.length c0_1) := (blk_cell BK109.out 1).trans rfl
                    have hcz44_2 : wr.cell? ⟨gb109, 2, none⟩ = some (.slice A0_2 l0_2.length c0_2) := (blk_cell BK109.out 2).trans rfl
                    have hfz44_0 := blk_frozen BK109.out 0
                    have hfz44_1 := blk_frozen BK109.out 1
                    have hfz44_2 := blk_frozen BK109.out 2
                    go_wp2
                    go_ret
                    exact ⟨by first | rfl | (simp [errW_none, errW_some] <;> rfl) | (simp [*, errW_none, errW_some] <;> rfl), by repeat (first | (with_reducible first | exact HB.out | apply below_alloc | apply pw_below_drewN | apply below_drew1 | refine below_set ?_ GE109.out | refine below_set ?_ GE110.out) | exact HB.out)⟩
end Go.Proofs.Ytelbgmpeghhakaa.PA
end
section
namespace Go.Proofs.Ytelbgmpeghhakaa.PA
open Go.RowKit Go.Proofs.YtelbgmpeghhakaaW.PrintWords Go.Proofs.YtelbgmpeghhakaaW.PrintLast Go.Proofs.YtelbgmpeghhakaaW.PrintMore
set_option linter.unusedVariables false
set_option linter.unusedSimpArgs false
inductive SmallN : S29 → Prop
  | mk (x : S29) (h1 : x.f1.length ≤ 4611686018427387904) (h2 : x.f2.length ≤ 4611686018427387904) (h3 : ∀ y ∈ x.f2, SmallN y) : SmallN x
theorem wr64 {n : Int} (h : -9223372036854775808 ≤ n ∧ n ≤ 9223372036854775807) : wrap64 n = n := by unfold wrap64; omega
theorem same_l1 (n : Int) (r : List S25) (ks : List S29) (hl : ks.length ≤ 4611686018427387904) (h : ∀ y ∈ ks, ∃ K, ∀ k, K ≤ k → colloquyref03_Same.f k y.f0 y.f1 y.f2 y.f0 y.f1 y.f2 = some true) :
    ∀ (m : Nat) (i : Int), 0 ≤ i → (ks.length : Int) - i ≤ m → ∃ K, ∀ k, K ≤ k → colloquyref03_Same.l1 k i n r ks n r ks = some true
  | 0, i, h0, hm => ⟨1, fun k hk => by
    obtain ⟨k, rfl⟩ : ∃ k', k = k' + 1 := ⟨k - 1, by omega⟩
    rw [colloquyref03_Same.l1, if_neg (by omega)]⟩
  | m + 1, i, h0, hm => by
    by_cases hi : i < (ks.length : Int)
    · obtain ⟨K1, h1⟩ := h (ks.getD i.toNat z29) (by
        have hlt : i.toNat < ks.length := by omega
        rw [List.getD_eq_getElem?_getD, List.getElem?_eq_getElem hlt]
        exact List.getElem_mem hlt)
      obtain ⟨K2, h2⟩ := same_l1 n r ks hl h m (i + 1) (by omega) (by omega)
      refine ⟨K1 + K2 + 1, fun k hk => ?_⟩
      obtain ⟨k, rfl⟩ : ∃ k', k = k' + 1 := ⟨k - 1, by omega⟩
      rw [colloquyref03_Same.l1, if_pos hi, if_pos h0, if_pos hi]
      have e := h1 k (by omega)
      unfold rd_T29
      rw [e, Option.bind_some, if_pos rfl, wr64 (by omega)]
      exact h2 k (by omega)
    · refine ⟨1, fun k hk => ?_⟩
      obtain ⟨k, rfl⟩ : ∃ k', k = k' + 1 := ⟨k - 1, by omega⟩
      rw [colloquyref03_Same.l1, if_neg hi]
theorem same_l0 (n : Int) (r : List S25) (ks : List S29) (hl : r.length ≤ 4611686018427387904) (h : ∃ K, ∀ k, K ≤ k → colloquyref03_Same.l1 k 0 n r ks n r ks = some true) :
    ∀ (m : Nat) (i : Int), 0 ≤ i → (r.length : Int) - i ≤ m → ∃ K, ∀ k, K ≤ k → colloquyref03_Same.l0 k i n r ks n r ks = some true
  | 0, i, h0, hm => by
    obtain ⟨K, hK⟩ := h
    refine ⟨K + 1, fun k hk => ?_⟩
    obtain ⟨k, rfl⟩ : ∃ k', k = k' + 1 := ⟨k - 1, by omega⟩
    rw [colloquyref03_Same.l0, if_neg (by omega)]
    exact hK k (by omega)
  | m + 1, i, h0, hm => by
    by_cases hi : i < (r.length : Int)
    · obtain ⟨K2, h2⟩ := same_l0 n r ks hl h m (i + 1) (by omega) (by omega)
      refine ⟨K2 + 1, fun k hk => ?_⟩
      obtain ⟨k, rfl⟩ : ∃ k', k = k' + 1 := ⟨k - 1, by omega⟩
      rw [colloquyref03_Same.l0, if_pos hi, if_pos h0, if_pos hi, if_neg (by simp), wr64 (by omega)]
      exact h2 k (by omega)
    · obtain ⟨K, hK⟩ := h
      refine ⟨K + 1, fun k hk => ?_⟩
      obtain ⟨k, rfl⟩ : ∃ k', k = k' + 1 := ⟨k - 1, by omega⟩
      rw [colloquyref03_Same.l0, if_neg hi]
      exact hK k (by omega)
theorem same_refl {x : S29} (h : SmallN x) : ∃ K, ∀ k, K ≤ k → colloquyref03_Same.f k x.f0 x.f1 x.f2 x.f0 x.f1 x.f2 = some true := by
  induction h with
  | mk x h1 h2 h3 ih =>
    have e1 := same_l1 x.f0 x.f1 x.f2 h2 ih x.f2.length 0 (Int.le_refl _) (by omega)
    obtain ⟨K, hK⟩ := same_l0 x.f0 x.f1 x.f2 h1 e1 x.f1.length 0 (Int.le_refl _) (by omega)
    refine ⟨K + 2, fun k hk => ?_⟩
    obtain ⟨k, rfl⟩ : ∃ k', k = k' + 2 := ⟨k - 2, by omega⟩
    rw [colloquyref03_Same.f, if_pos rfl, if_pos rfl, bne_self_eq_false, colloquyref03_Same.j0, if_neg (by decide)]
    exact hK k (by omega)
theorem Same_true (n : Int) (A1 A2 A3 A4 : Option Addr) (c1 c2 c3 c4 : Nat) (r : List S25) (ks : List S29) (w : World) (hs : SmallN ⟨n, r, ks⟩) (h1 : Kd.C k25 w A1 r.length r) (l1 : r.length ≤ c1) (h2 : Kd.C k29 w A2 ks.length ks) (l2 : ks.length ≤ c2) (h3 : Kd.C k25 w A3 r.length r) (l3 : r.length ≤ c3) (h4 : Kd.C k29 w A4 ks.length ks) (l4 : ks.length ≤ c4) :
    Calls Try.prog 5 #[.agg #[.int .i64 n, .slice A1 r.length c1, .slice A2 ks.length c2], .agg #[.int .i64 n, .slice A3 r.length c3, .slice A4 ks.length c4]] w fun e w' => e = .returned (.bool true) ∧ Below w.heap.size w w' := by
  obtain ⟨K, hK⟩ := same_refl hs
  exact colloquyref03_Same.calls K n A1 c1 r A2 c2 ks n A3 c3 r A4 c4 ks true w h1 l1 h2 l2 h3 l3 h4 l4 (hK K (Nat.le_refl _))
end Go.Proofs.Ytelbgmpeghhakaa.PA
end
section
namespace Go.Proofs.Ytelbgmpeghhakaa.PA
open Go.RowKit Go.Proofs.YtelbgmpeghhakaaW.PrintWords Go.Proofs.YtelbgmpeghhakaaW.PrintLast Go.Proofs.YtelbgmpeghhakaaW.PrintMore
set_option linter.unusedVariables false
set_option linter.unusedSimpArgs false
namespace GGlobR_
theorem gwagg25 : ∀ w, (isAgg 25).run Try.prog w = .ok true w := fun _ => by kernel_rfl
theorem gwflda25_0 (ad : Addr) : ∀ w, (Instr.fieldAt 25 (.pointer (some ad)) 0).run Try.prog w = .ok (.pointer (some (ad.add 0))) w := fun _ => by kernel_rfl
theorem gwinfo25 : (Try.prog.info? 25).map (fun i => (i.zero, i.size, i.bytes)) = some (some (.agg #[.int .u8 0, .int .u8 0]), 2, 2) := by kernel_rfl
theorem gwsiz25 : ∀ w, (sizeOf 25).run Try.prog w = .ok 2 w := fun _ => by kernel_rfl
theorem gwsiz5 : ∀ w, (sizeOf 5).run Try.prog w = .ok 1 w := fun _ => by kernel_rfl
set_option maxHeartbeats 4000000 in
set_option maxRecDepth 100000 in
theorem GlobRanges_walk (A0 : Option Addr) (c0 : Nat) (l : List S25) (a1 : Bool) (w : World) (hr : Kd.C k25 w A0 l.length l) (hc : l.length ≤ c0) (hbb : ∀ r ∈ l, 0 ≤ r.f0 ∧ r.f0 ≤ 255 ∧ 0 ≤ r.f1 ∧ r.f1 ≤ 255) (hl : l.length ≤ 70368744177664) :
    Calls Try.prog 3 #[.slice A0 l.length c0, .bool a1] w fun e w' => e = .returned (.bool true) ∧ Below w.heap.size w w' := by
 have hLl : (canonP fun c_ => inR l c_ != a1).length ≤ 128 := canonN_len _ 256 (Nat.le_refl _)
 refine gw_start (N := 51) (vs := [.slice A0 l.length c0, .bool a1]) Try.func3 rfl rfl (by simp) fun a HF HO => ?_
 replace HO : Own w w [] := HO
 refine gR fun K1 hK1 => ?_
 refine V HF (op_assign rfl (ev_c _ _)) ?_
 intro _ H3; clear HF
 refine gE hK1 ?_
 refine gR fun K4 hK4 => ?_
 refine V H3 (op_build (cells := #[.int .u8 1, .int .u8 254]) rfl (pt_cons (ev_c _ _) (pt_cons (ev_c _ _) pt_nil)) (by kernel_rfl)) ?_
 intro _ H6; clear H3
 refine gw_news (O := .cells #[.int .u8 1, .int .u8 254] 25 (0, 0)) (n := 1) H6 HO (want_none rfl) rfl (by decide) (op_bslice (by kernel_rfl) rfl (pt_cons (H6.ev rfl) pt_nil)) ?_
 intro g7 _ w9 H10 O11; clear H6 HO
 have O12 : Own w w9 [Bk g7 [.int .u8 1, .int .u8 254] 25] := O11
 clear O11
 refine gw_call H10 (want_none rfl) rfl (by decide) (op_callL Try.func4 (by kernel_rfl) rfl rfl (ar_cons (H10.ev rfl) (ar_cons (ev_c _ _) ar_nil))) (Ranges_out (some ⟨g7, 0, none⟩) 1 ([(⟨1, 254⟩ : S25)]) true _ (Cg_lit (cs := [.int .u8 1, .int .u8 254]) (O12.get 0 rfl) (reps_more (k25_mk _ (⟨1, 254⟩ : S25)) rfl reps_none) (by simp [maxLen])) (Nat.le_refl _) (fun r_ hr_ => (by rw [List.mem_singleton.1 hr_]; exact ⟨by decide, by decide⟩)) (by decide)) ?_
 rintro e16 w17 ⟨A13, c14, S15, rfl, hb18⟩
 refine ⟨_, rfl, fun _ H20 => ?_⟩
 have O21 := O12.fresh hb18
 have hbel22 := O12.below
 clear H10 O12 hb18
 have O23 := O21.lowrow 0 rfl (base' := w.heap.size) (Below.size hbel22)
 rw [one_ranges] at O23
 (try rw [one_ranges] at H20)
 refine V H20 (op_assign rfl (H20.ev rfl)) ?_
 intro _ H25; clear H20
 refine gE hK4 ?_
 refine gw_seq fun K26 hK26 => ?_
 refine gR fun K27 hK27 => ?_
 refine V H25 (op_move rfl (H25.ev rfl)) ?_
 intro _ H29; clear H25
 refine V H29 (op_len Try.underlying22 rfl (H29.ev rfl)) ?_
 intro _ H31; clear H29
 refine V H31 (op_nei rfl (H31.ev rfl) (ev_c _ _)) ?_
 intro _ H33; clear H31
 have H34 := H33.lit (b := false) (by decide)
 clear H33
 refine V H34 (op_move rfl (H34.ev rfl)) ?_
 intro _ H36; clear H34
 refine V2 H36 (want_yes H36 rfl rfl rfl rfl) (op_move rfl (H36.ev rfl)) ?_
 intro _ H38; clear H36
 obtain ⟨ad39, hA40⟩ := row_head (O23.get 0 rfl) 1 (by decide) (by decide)
 subst hA40
 refine V2 H38 (want_yes H38 rfl rfl rfl rfl) (op_index Try.underlying22 gwsiz25 rfl (H38.ev rfl) (ev_c _ _) rfl (⟨by decide, by decide⟩)) ?_
 intro _ H43; clear H38
 refine V2 H43 (want_yes H43 rfl rfl rfl rfl) (op_loadc gwagg25 gwsiz25 rfl (H43.ev rfl) rfl ((rowf_cells (z := z25) (O23.get 0 rfl) 1 (by decide) (by decide) (fun _ _ h_ => k25_open h_)))) ?_
 intro _ H45; clear H43
 refine V2 H45 (want_yes H45 rfl rfl rfl rfl) (op_build (cells := #[.int .u8 255, .int .u8 255]) rfl (pt_cons (ev_c _ _) (pt_cons (ev_c _ _) pt_nil)) (by kernel_rfl)) ?_
 intro _ H47; clear H45
 refine V2 H47 (want_yes H47 rfl rfl rfl rfl) (op_bin_run (r := .bool false) rfl (H47.ev rfl) (H47.ev rfl) (by kernel_rfl)) ?_
 intro _ H49; clear H47
 refine V H49 (op_pick_f rfl (H49.ev rfl) (H49.ev rfl)) ?_
 intro _ H51; clear H49
 refine gE hK27 ?_
 refine gw_cond H51 rfl (fun hb52 => ?_) (fun hb52 => ?_)
 skip
 ·
  cases hb52
 refine wp_skip ?_
 refine gw_nx (hK26 _ _ ?_)
 refine gR fun K53 hK53 => ?_
 refine gw_rlit0 k25 (e := 25) H51 O23 (want_none rfl) rfl (by decide) (op_bslice (by kernel_rfl) rfl pt_nil) ?_
 intro A54 S55 _ w57 H58 O59; clear H51 O23
 have O60 : Own w w57 [Chunk.row k25 25 w.heap.size S55 (.slice A54 (([] : List S25).length) 0) ([] : List S25), Chunk.row k25 25 w.heap.size S15 (.slice (some ad39) ([(⟨0, 0⟩ : S25), (⟨255, 255⟩ : S25)].length) c14) [(⟨0, 0⟩ : S25), (⟨255, 255⟩ : S25)], Bk g7 [.int .u8 1, .int .u8 254] 25] := O59
 clear O59
 refine V H58 (op_move rfl (H58.ev rfl)) ?_
 intro _ H62; clear H58
 refine gw_append k25 0 H62 O60 (want_none rfl) rfl (by decide) rfl Try.underlying22 gwinfo25 rfl (by decide) (by decide) rfl (H62.ev rfl) (H62.ev rfl) (Kd.C_below hr O60.below) (fun _ _ h => h) O60.below.size (by simp; omega) ?_
 intro A63 c64 S65 _ w67 H68 O69; clear H62 O60
 have O70 : Own w w67 [Chunk.row k25 25 w.heap.size S65 (.slice A63 ((([] : List S25) ++ l).length) c64) (([] : List S25) ++ l), Chunk.row k25 25 w.heap.size S15 (.slice (some ad39) ([(⟨0, 0⟩ : S25), (⟨255, 255⟩ : S25)].length) c14) [(⟨0, 0⟩ : S25), (⟨255, 255⟩ : S25)], Bk g7 [.int .u8 1, .int .u8 254] 25] := O69
 clear O69
 rw [List.nil_append] at O70
 (try rw [List.nil_append] at H68)
 refine V H68 (op_assign rfl (H68.ev rfl)) ?_
 intro _ H72; clear H68
 refine gE hK53 ?_
 refine gR fun K73 hK73 => ?_
 refine V H72 (op_move rfl (H72.ev rfl)) ?_
 intro _ H75; clear H72
 refine V H75 (op_move rfl (H75.ev rfl)) ?_
 intro _ H77; clear H75
 refine gw_call H77 (want_none rfl) rfl (by decide) (op_callL Try.func4 (by kernel_rfl) rfl rfl (ar_cons (H77.ev rfl) (ar_cons (H77.ev rfl) ar_nil))) (Ranges_out A0 c0 l a1 _ (Kd.C_below hr O70.below) hc (fun r_ hr_ => ⟨(hbb r_ hr_).1, (hbb r_ hr_).2.2.2⟩) (hl)) ?_
 rintro e81 w82 ⟨A78, c79, S80, rfl, hb83⟩
 refine ⟨_, rfl, fun _ H85 => ?_⟩
 have O86 := O70.fresh hb83
 have hbel87 := O70.below
 clear H77 O70 hb83
 have O88 := O86.lowrow 0 rfl (base' := w.heap.size) (Below.size hbel87)
 refine V H85 (op_assign rfl (H85.ev rfl)) ?_
 intro _ H90; clear H85
 refine gE hK73 ?_
 refine gw_seq fun K91 hK91 => ?_
 refine gR fun K92 hK92 => ?_
 refine V H90 (op_move rfl (H90.ev rfl)) ?_
 intro _ H94; clear H90
 refine V H94 (op_build (cells := #[J 0, .slice A78 ((canonP fun c_ => inR l c_ != a1).length) c79, .slice none 0 0]) rfl (pt_cons (H94.ev rfl) pt_nil) (by kernel_rfl)) ?_
 intro _ H96; clear H94
 refine V H96 (op_move rfl (H96.ev rfl)) ?_
 intro _ H98; clear H96
 refine V H98 (op_move rfl (H98.ev rfl)) ?_
 intro _ H100; clear H98
 refine gw_call H100 (want_none rfl) rfl (by decide) (op_callL Try.func6 (by kernel_rfl) rfl rfl (ar_cons (H100.ev rfl) (ar_cons (H100.ev rfl) ar_nil))) (rRanges_walk A0 c0 l a1 _ (Kd.C_below hr O88.below) hc hbb) ?_
 rintro e104 w105 ⟨A101, c102, S103, rfl, hb106⟩
 refine ⟨_, rfl, fun _ H108 => ?_⟩
 have O109 := O88.fresh hb106
 have hbel110 := O88.below
 clear H100 O88 hb106
 have O111 := O109.lowrow 0 rfl (base' := w.heap.size) (Below.size hbel110)
 refine V H108 (op_build (cells := #[J 0, .slice A101 ((canonP fun c_ => inR l c_ != a1).length) c102, .slice none 0 0]) rfl (pt_cons (H108.ev rfl) pt_nil) (by kernel_rfl)) ?_
 intro _ H113; clear H108
 refine gw_call H113 (want_none rfl) rfl (by decide) (op_callL Try.func5 (by kernel_rfl) rfl rfl (ar_cons (H113.ev rfl) (ar_cons (H113.ev rfl) ar_nil))) (Same_true 0 A78 none A101 none c79 0 c102 0 (canonP fun c_ => inR l c_ != a1) ([] : List S29) _ (SmallN.mk _ (by show (canonP fun c_ => inR l c_ != a1).length ≤ _; omega) (Nat.zero_le _) (fun y_ h_ => by cases h_)) (Kd.R_reads' (O111.get 1 rfl)).2.2 (row_cap (O111.get 1 rfl)) (Kd.C_nil _ _) (Nat.le_refl _) (Kd.R_reads' (O111.get 0 rfl)).2.2 (row_cap (O111.get 0 rfl)) (Kd.C_nil _ _) (Nat.le_refl _)) ?_
 rintro e114 w115 ⟨rfl, hb116⟩
 refine ⟨_, rfl, fun _ H118 => ?_⟩
 have O119 := O111.after hb116
 clear H113 O111 hb116
 refine V H118 (op_not rfl (H118.ev rfl)) ?_
 intro _ H122; clear H118
 refine gE hK92 ?_
 refine gw_cond H122 rfl (fun hb123 => ?_) (fun hb123 => ?_)
 skip
 ·
  cases hb123
 refine wp_skip ?_
 refine gw_nx (hK91 _ _ ?_)
 refine gw_seq fun K124 hK124 => ?_
 refine gR fun K125 hK125 => ?_
 refine V H122 (op_move rfl (H122.ev rfl)) ?_
 intro _ H127; clear H122
 refine V H127 (op_len Try.underlying22 rfl (H127.ev rfl)) ?_
 intro _ H129; clear H127
 refine V H129 (op_move rfl (ev_c _ _)) ?_
 intro _ H131; clear H129
 refine gE hK125 ?_
 refine wp_block ?_
 refine gw_loop (fun m_ a_ w_ => ∃ (p : Int) (X : List S25), Fr 51 a_ [(38, J p), (0, .slice A0 l.length c0), (4, .bool false), (6, .slice A63 l.length c64), (7, .slice A78 ((canonP fun c_ => inR l c_ != a1).length) c79), (37, J (((canonP fun c_ => inR l c_ != a1).length) : Int))] ∧ Own w w_ [Chunk.row k25 25 w.heap.size S103 (.slice A101 ((canonP fun c_ => inR l c_ != a1).length) c102) (canonP fun c_ => inR l c_ != a1), Chunk.row k25 25 w.heap.size S80 (.slice A78 ((canonP fun c_ => inR l c_ != a1).length) c79) X, Chunk.row k25 25 w.heap.size S65 (.slice A63 (l.length) c64) l, Chunk.row k25 25 w.heap.size S15 (.slice (some ad39) ([(⟨0, 0⟩ : S25), (⟨255, 255⟩ : S25)].length) c14) [(⟨0, 0⟩ : S25), (⟨255, 255⟩ : S25)], Bk g7 [.int .u8 1, .int .u8 254] 25] ∧ (0 ≤ p ∧ p ≤ ((canonP fun c_ => inR l c_ != a1).length : Int)) ∧ (X.length = (canonP fun c_ => inR l c_ != a1).length) ∧ m_ = ((canonP fun c_ => inR l c_ != a1).length - p.toNat)) (((canonP fun c_ => inR l c_ != a1).length - (0 : Int).toNat)) ?_ ?_
 ·
  refine ⟨0, (canonP fun c_ => inR l c_ != a1), (H131.pick (t := 38) rfl (H131.pick (t := 0) rfl (H131.pick (t := 4) rfl (H131.pick (t := 6) rfl (H131.pick (t := 7) rfl (H131.pick (t := 37) rfl H131.nil)))))), O119.sel [0, 1, 2, 3, 4] (by decide), ?_, ?_, rfl⟩
  ·
   omega
  ·
   rfl
 ·
  rintro m133 _ w135 ⟨p, X, H136, O137, hp, hX, hm138⟩
  refine gR fun K139 hK139 => ?_
  refine V H136 (op_lss rfl (H136.ev rfl) (H136.ev rfl)) ?_
  intro _ H141; clear H136
  refine gE hK139 ?_
  refine gw_seq fun K142 hK142 => ?_
  refine gw_cond H141 rfl (fun hb143 => ?_) (fun hb143 => ?_)
  ·
   have H144 := H141.subst_ (d := 39) (b := true) rfl hb143
   clear H141
   (try simp only [decide_eq_true_eq, decide_eq_false_iff_not, Int.not_lt, bne_iff_ne, bne_eq_false_iff_eq, ne_eq] at hb143)
   refine wp_skip ?_
   refine gw_nx (hK142 _ _ ?_)
   refine gw_seq fun K145 hK145 => ?_
   refine wp_block ?_
   refine gR fun K146 hK146 => ?_
   refine V H144 (op_move rfl (H144.ev rfl)) ?_
   intro _ H148; clear H144
   refine V H148 (op_assign rfl (H148.ev rfl)) ?_
   intro _ H150; clear H148
   refine gE hK146 ?_
   refine wp_region_lit ?_
   refine V H150 (op_move rfl (H150.ev rfl)) ?_
   intro _ H152; clear H150
   refine V H152 (op_move rfl (H152.ev rfl)) ?_
   intro _ H154; clear H152
   obtain ⟨ad155, hA156⟩ := row_head (O137.get 1 rfl) p (by omega) (by omega)
   subst hA156
   refine V H154 (op_index Try.underlying22 gwsiz25 rfl (H154.ev rfl) (H154.ev rfl) rfl (⟨by omega, by omega⟩)) ?_
   intro _ H159; clear H154
   refine V H159 (op_field (gwflda25_0 _) rfl (H159.ev rfl)) ?_
   intro _ H161; clear H159
   refine gw_rowf flatR z25 (⟨7, (X.getD p.toNat z25).f1⟩ : S25) 0 1 H161 O137 rfl (want_none rfl) rfl gwsiz5 (by omega) (by omega) (by show 0 < 2; decide) rfl (H161.ev rfl) (ev_c _ _) rfl rfl ?_
   intro _ w164 H163 O165; clear H161 O137
   have O166 : Own w w164 [Chunk.row k25 25 w.heap.size S103 (.slice A101 ((canonP fun c_ => inR l c_ != a1).length) c102) (canonP fun c_ => inR l c_ != a1), Chunk.row k25 25 w.heap.size S80 (.slice (some ad155) ((canonP fun c_ => inR l c_ != a1).length) c79) (X.set p.toNat (⟨7, (X.getD p.toNat z25).f1⟩ : S25)), Chunk.row k25 25 w.heap.size S65 (.slice A63 (l.length) c64) l, Chunk.row k25 25 w.heap.size S15 (.slice (some ad39) ([(⟨0, 0⟩ : S25), (⟨255, 255⟩ : S25)].length) c14) [(⟨0, 0⟩ : S25), (⟨255, 255⟩ : S25)], Bk g7 [.int .u8 1, .int .u8 254] 25] := O165
   clear O165
   refine wpList_nil ?_
   refine gw_blk ?_
   refine gw_nx (hK145 _ _ ?_)
   refine wp_region_lit ?_
   refine V H163 (op_add rfl (H163.ev rfl) (ev_c _ _) (by omega)) ?_
   intro _ H168; clear H163
   refine V H168 (op_move rfl (H168.ev rfl)) ?_
   intro _ H170; clear H168
   refine wpList_nil ?_
   refine gw_nx ⟨_, ?_, p + 1, (X.set p.toNat (⟨7, (X.getD p.toNat z25).f1⟩ : S25)), (H170.pick (t := 38) rfl (H170.pick (t := 0) rfl (H170.pick (t := 4) rfl (H170.pick (t := 6) rfl (H170.pick (t := 7) rfl (H170.pick (t := 37) rfl H170.nil)))))), O166.sel [0, 1, 2, 3, 4] (by decide), ?_, ?_, rfl⟩
   ·
    rw [hm138]; omega
   ·
    omega
   ·
    rw [List.length_set]; exact hX
  ·
   have H171 := H141.subst_ (d := 39) (b := false) rfl hb143
   clear H141
   (try simp only [decide_eq_true_eq, decide_eq_false_iff_not, Int.not_lt, bne_iff_ne, bne_eq_false_iff_eq, ne_eq] at hb143)
   refine wp_exit ?_
   refine gw_thx ?_
   refine gw_thx ?_
   refine gw_in ?_
   refine gw_nx (hK124 _ _ ?_)
   refine gR fun K172 hK172 => ?_
   refine V H171 (op_move rfl (H171.ev rfl)) ?_
   intro _ H174; clear H171
   refine V H174 (op_build (cells := #[J 0, .slice A0 l.length c0, .slice none 0 0]) rfl (pt_cons (H174.ev rfl) pt_nil) (by kernel_rfl)) ?_
   intro _ H176; clear H174
   refine V H176 (op_move rfl (H176.ev rfl)) ?_
   intro _ H178; clear H176
   refine V H178 (op_build (cells := #[J 0, .slice A63 l.length c64, .slice none 0 0]) rfl (pt_cons (H178.ev rfl) pt_nil) (by kernel_rfl)) ?_
   intro _ H180; clear H178
   refine gw_call H180 (want_none rfl) rfl (by decide) (op_callL Try.func5 (by kernel_rfl) rfl rfl (ar_cons (H180.ev rfl) (ar_cons (H180.ev rfl) ar_nil))) (Same_true 0 A0 none A63 none c0 0 c64 0 l ([] : List S29) _ (SmallN.mk _ (by show l.length ≤ _; omega) (Nat.zero_le _) (fun y_ h_ => by cases h_)) (Kd.C_below hr O137.below) hc (Kd.C_nil _ _) (Nat.le_refl _) (Kd.R_reads' (O137.get 2 rfl)).2.2 (row_cap (O137.get 2 rfl)) (Kd.C_nil _ _) (Nat.le_refl _)) ?_
   rintro e181 w182 ⟨rfl, hb183⟩
   refine ⟨_, rfl, fun _ H185 => ?_⟩
   have O186 := O137.after hb183
   clear H180 O137 hb183
   refine V H185 (op_assign rfl (H185.ev rfl)) ?_
   intro _ H189; clear H185
   refine gE hK172 ?_
   refine wp_ret ?_
   refine gw_ret1 H189 rfl rfl ?_
   exact ⟨rfl, O186.below⟩
end GGlobR_
export GGlobR_ (GlobRanges_walk)
open Classical in
noncomputable def colloquylaw03_GlobRanges.f (l0 : List S25) (a1 : Bool) : Option Bool := if (∀ r ∈ l0, 0 ≤ r.f0 ∧ r.f0 ≤ 255 ∧ 0 ≤ r.f1 ∧ r.f1 ≤ 255) ∧ (l0.length ≤ 70368744177664) then some true else none
theorem colloquylaw03_GlobRanges.calls (A0 : Option Addr) (c0 : Nat) (l0 : List S25) (a1 : Bool) (r : Bool) (w : World) (hr0 : Kd.C k25 w A0 l0.length l0) (hc0 : l0.length ≤ c0) (h : colloquylaw03_GlobRanges.f l0 a1 = some r) :
    Calls Try.prog 3 #[(.slice A0 l0.length c0), (.bool a1)] w fun e w' => e = .returned (.bool r) ∧ Below w.heap.size w w' := by
  unfold colloquylaw03_GlobRanges.f at h
  split at h
  · cases h; rename_i hh; exact GlobRanges_walk A0 c0 l0 a1 w hr0 hc0 hh.1 hh.2
  · cases h
end Go.Proofs.Ytelbgmpeghhakaa.PA
end
section
namespace Go.Proofs.Ytelbgmpeghhakaa.PA
open Go.RowKit Go.Proofs.YtelbgmpeghhakaaW.PrintWords Go.Proofs.YtelbgmpeghhakaaW.PrintLast Go.Proofs.YtelbgmpeghhakaaW.PrintMore
structure Opens {α : Type} (P : Program) (t : TypeId) (d : Kd α) (good : α → Prop) (wt : α → Nat) (sz : α → Prop) : Prop where
  run : ∀ {H : Type} (enc : TypeId × Value → H) (w : World) (spare : Nat → Bool) (held : Bool) (fuel : Nat) (cs : List Value) (x : DataW H × List MemPlace),
    DataW.trod enc P w 0 spare held fuel t cs = some x → ∃ y : α, d.K w y cs ∧ good y ∧ wt y ≤ Rows.uptoBulk x.1 ∧ ((∀ n ∈ x.1.weights P t, n ≤ reachBytes) → sz y)
structure OpensF {α : Type} (P : Program) (fs : List Field) (off : Nat) (d : Kd α) (good : α → Prop) (wt : α → Nat) (sz : α → Prop) : Prop where
  run : ∀ {H : Type} (enc : TypeId × Value → H) (w : World) (spare : Nat → Bool) (held : Bool) (fuel : Nat) (cs : List Value) (xs : List (DataW H × List MemPlace)),
    (fs.mapM fun f => DataW.trod enc P w 0 spare held fuel f.type ((cs.drop f.offset).take (P.cellsOf f.type))) = some xs →
      ∃ y : α, d.K w y ((cs.drop off).take d.sz) ∧ good y ∧ wt y ≤ Rows.uptoBulkAll (xs.map (·.1)) ∧ ((∀ n ∈ DataW.weightsEach P (fs.map (·.type)) (xs.map (·.1)), n ≤ reachBytes) → sz y)
section
variable {P : Program} {t e : TypeId}
theorem bulk_pos {H : Type} (d : DataW H) : 1 ≤ Rows.uptoBulk d := by
  cases d with
  | lit l => cases l <;> simp [Rows.uptoBulk]
  | nil => simp [Rows.uptoBulk]
  | ptr d => simp [Rows.uptoBulk]
  | slice elems spare => simp [Rows.uptoBulk]
  | agg parts => simp [Rows.uptoBulk]
  | iface t d => simp [Rows.uptoBulk]
  | map entries => simp [Rows.uptoBulk]
  | held h => simp [Rows.uptoBulk]
theorem opens_int {k : IntKind} (ht : P.underlying t = some (.int k)) : Opens P t (Kd.int k) (fun y => (Lit.int k y).wf = true) (fun _ => 1) (fun _ => True) :=
  ⟨fun enc w spare held fuel cs x h => by
    obtain ⟨n, rfl, rfl, hw⟩ := DataW.trod_int ht h
    exact ⟨n, rfl, hw, bulk_pos _, fun _ => trivial⟩⟩
theorem bulkAll_map {H : Type} {α : Type} (wt : α → Nat) : ∀ (ds : List (DataW H)) (xs : List α), xs.length = ds.length → (∀ (i : Nat) (x : α) (d : DataW H), xs[i]? = some x → ds[i]? = some d → wt x ≤ Rows.uptoBulk d) → (xs.map wt).sum ≤ Rows.uptoBulkAll ds
  | [], [], _, _ => by simp
  | [], _ :: _, hl, _ => by simp at hl
  | _ :: _, [], hl, _ => by simp at hl
  | d :: ds, x :: xs, hl, h => by
    have h0 := h 0 x d rfl rfl
    have ih := bulkAll_map wt ds xs (by simpa using hl) (fun i x' d' h1 h2 => h (i + 1) x' d' (by simpa using h1) (by simpa using h2))
    simp only [List.map_cons, List.sum_cons, Rows.uptoBulkAll]
    omega
theorem cells_list {w : World} {base : Nat} {a : Addr} {n : Nat} {cs : List Value} (h : w.cells? base a n = some cs) : cs.length = n ∧ ∀ i u, cs[i]? = some u → w.cell? (a.add i) = some u := by
  unfold World.cells? at h
  split at h
  · have hl := mapM_some_length h
    rw [List.length_range] at hl
    refine ⟨hl, fun i u hu => ?_⟩
    have hi : i < n := by
      have := (List.getElem?_eq_some_iff.1 hu).1
      omega
    have := mapM_some_get h i i (by rw [List.getElem?_range hi])
    rw [this]
    exact hu
  · cases h
theorem mem_weightsAll {H : Type} {n : Nat} {d : DataW H} : ∀ {ds : List (DataW H)}, d ∈ ds → n ∈ d.weights P e → n ∈ DataW.weightsAll P e ds
  | [], h, _ => by cases h
  | c :: ds, h, hn => by
    simp only [DataW.weightsAll, List.mem_append]
    rcases List.mem_cons.1 h with rfl | h
    · exact .inl hn
    · exact .inr (mem_weightsAll h hn)
theorem opens_slice {α : Type} [Inhabited α] {d : Kd α} {good : α → Prop} {wt : α → Nat} {sz : α → Prop} {b : Nat} (hby : P.bytesOf e = b) (ht : P.underlying t = some (.slice e)) (hsz : P.cellsOf e = d.sz) (ho : Opens P e d good wt sz) :
    Opens P t (Kd.slice e d) (fun xs => xs.length ≤ maxLen ∧ ∀ x ∈ xs, good x) (fun xs => (xs.map wt).sum + 1) (fun xs => xs.length * b ≤ reachBytes ∧ ∀ x ∈ xs, sz x) :=
  ⟨fun enc w spare held fuel cs x h => by
    rcases Deep.open_slice ht h with ⟨rfl, rfl⟩ | ⟨a, len, cap, m, n, D, Pl, rfl, hb, hl, hm, hmm, rfl, hx⟩
    · refine ⟨[], ⟨none, 0, rfl, Nat.le_refl _, rfl, Nat.zero_le _, fun h => absurd h (by simp)⟩, ⟨by simp [maxLen], fun x hx => by cases hx⟩, by simpa using bulk_pos _, fun _ => ⟨by simp, fun x hx => by cases hx⟩⟩
    · have hlm : len ≤ m := by rw [hmm]; split <;> omega
      have hel : ∀ i : Nat, ∃ y : α, i < len → ∃ cs', w.cells? 0 (a.add (i * P.cellsOf e)) (P.cellsOf e) = some cs' ∧ d.K w y cs' ∧ good y ∧ wt y ≤ Rows.uptoBulk (D i) ∧ ((∀ n ∈ (D i).weights P e, n ≤ reachBytes) → sz y) := by
        intro i
        by_cases hi : i < len
        · obtain ⟨cs', h1, h2⟩ := hx i (by omega)
          obtain ⟨y, hk, hg, hw, hz⟩ := ho.run enc w spare held n cs' _ h2
          exact ⟨y, fun _ => ⟨cs', h1, hk, hg, hw, hz⟩⟩
        · exact ⟨default, fun h => absurd h hi⟩
      obtain ⟨f, hf⟩ := Classical.axiomOfChoice hel
      have hget : ∀ (j : Nat) (p : α), ((List.range len).map f)[j]? = some p → j < len ∧ f j = p := by
        intro j p hj
        have hj' := (List.getElem?_eq_some_iff.1 hj).1
        rw [List.length_map, List.length_range] at hj'
        rw [List.getElem?_map, List.getElem?_range hj'] at hj
        exact ⟨hj', by simpa using hj⟩
      have hlen : ((List.range len).map f).length = len := by rw [List.length_map, List.length_range]
      have hmax : maxLen = 9223372036854775807 := rfl
      refine ⟨(List.range len).map f, ⟨some a, cap, by rw [hlen], by rw [hlen]; exact hl, rfl, by rw [hlen]; omega, fun _ => ⟨a, rfl, fun j p hj => ?_⟩⟩, ⟨by rw [hlen]; omega, fun x hx' => ?_⟩, ?_, fun hn => ⟨?_, fun x hx' => ?_⟩⟩
      · obtain ⟨hj', rfl⟩ := hget j p hj
        obtain ⟨cs', h1, hk, _⟩ := hf j hj'
        obtain ⟨hcl, hcc⟩ := cells_list h1
        refine ⟨cs', by rw [hcl, hsz], hk, fun i u hu => ?_⟩
        have := hcc i u hu
        rwa [Addr.add_add, hsz] at this
      · obtain ⟨i, hi, rfl⟩ := List.mem_map.1 hx'
        obtain ⟨_, _, _, hg, _⟩ := hf i (List.mem_range.1 hi)
        exact hg
      · simp only [Rows.uptoBulk]
        have := bulkAll_map wt ((List.range len).map D) ((List.range len).map f) (by simp) (fun i x' d' h1 h2 => by
          obtain ⟨hi, rfl⟩ := hget i x' h1
          have hd : D i = d' := by
            rw [List.getElem?_map, List.getElem?_range hi] at h2
            simpa using h2
          subst hd
          obtain ⟨_, _, _, _, hw, _⟩ := hf i hi
          exact hw)
        omega
      · simp only [DataW.weights, ht] at hn
        have h1 := hn _ (List.mem_cons_self ..)
        rw [List.length_map, List.length_range, hby] at h1
        rw [hlen]
        exact Nat.le_trans (Nat.mul_le_mul_right b (Nat.le_add_right _ _)) h1
      · simp only [DataW.weights, ht] at hn
        obtain ⟨i, hi, rfl⟩ := List.mem_map.1 hx'
        obtain ⟨_, _, _, _, _, hz⟩ := hf i (List.mem_range.1 hi)
        exact hz fun n hn' => hn n (List.mem_cons_of_mem _ (List.mem_append_left _ (mem_weightsAll (List.mem_map.2 ⟨i, hi, rfl⟩) hn')))⟩
theorem opensF_one {α : Type} {d : Kd α} {good : α → Prop} {wt : α → Nat} {sz : α → Prop} {f : Field} (hsz : P.cellsOf f.type = d.sz) (ho : Opens P f.type d good wt sz) : OpensF P [f] f.offset d good wt sz :=
  ⟨fun enc w spare held fuel cs xs h => by
    simp only [List.mapM_cons, List.mapM_nil] at h
    obtain ⟨x, hx, h2⟩ := Option.bind_eq_some_iff.1 h
    obtain ⟨ys, hys, h3⟩ := Option.bind_eq_some_iff.1 h2
    obtain rfl : [] = ys := by simpa using hys
    obtain rfl : [x] = xs := by simpa using h3
    obtain ⟨y, hk, hg, hw, hz⟩ := ho.run enc w spare held fuel _ x hx
    refine ⟨y, by rw [← hsz]; exact hk, hg, ?_, fun hn => hz fun n h' => hn n ?_⟩
    · simp only [List.map_cons, List.map_nil, Rows.uptoBulkAll]
      omega
    · simp only [List.map_cons, List.map_nil, DataW.weightsEach, List.append_nil]
      exact h'⟩
theorem opensF_cons {α β : Type} {d : Kd α} {d2 : Kd β} {good : α → Prop} {good2 : β → Prop} {wt : α → Nat} {wt2 : β → Nat} {sz : α → Prop} {sz2 : β → Prop} {f : Field} {fs : List Field} {off2 : Nat} (hsz : P.cellsOf f.type = d.sz) (hoff : f.offset + d.sz = off2)
    (ho : Opens P f.type d good wt sz) (h2 : OpensF P fs off2 d2 good2 wt2 sz2) : OpensF P (f :: fs) f.offset (Kd.pair d d2) (fun x => good x.1 ∧ good2 x.2) (fun x => wt x.1 + wt2 x.2) (fun x => sz x.1 ∧ sz2 x.2) :=
  ⟨fun enc w spare held fuel cs xs h => by
    simp only [List.mapM_cons] at h
    obtain ⟨x, hx, h3⟩ := Option.bind_eq_some_iff.1 h
    obtain ⟨ys, hys, h4⟩ := Option.bind_eq_some_iff.1 h3
    obtain rfl : x :: ys = xs := by simpa using h4
    obtain ⟨y, hk, hg, hw, hz⟩ := ho.run enc w spare held fuel _ x hx
    obtain ⟨z, hk2, hg2, hw2, hz2⟩ := h2.run enc w spare held fuel cs ys hys
    refine ⟨(y, z), ⟨(cs.drop f.offset).take d.sz, (cs.drop off2).take d2.sz, ?_, by rw [← hsz]; exact hk, hk2⟩, ⟨hg, hg2⟩, ?_, fun hn => ?_⟩
    · show (cs.drop f.offset).take (d.sz + d2.sz) = _
      rw [List.take_add, List.drop_drop, hoff]
    · simp only [List.map_cons, Rows.uptoBulkAll]
      omega
    · simp only [List.map_cons, DataW.weightsEach] at hn
      exact ⟨hz fun n h' => hn n (List.mem_append_left _ h'), hz2 fun n h' => hn n (List.mem_append_right _ h')⟩⟩
theorem opens_struct {α β : Type} {d : Kd α} {good : α → Prop} {wt : α → Nat} {sz : α → Prop} {fs : Array Field} (f : β → α) (g : α → β) (hfg : ∀ a, f (g a) = a) (ht : P.underlying t = some (.struct fs)) (hsz : P.cellsOf t = d.sz) (ho : OpensF P fs.toList 0 d good wt sz) :
    Opens P t (Kd.iso d f) (fun x => good (f x)) (fun x => wt (f x) + 1) (fun x => sz (f x)) :=
  ⟨fun enc w spare held fuel cs x h => by
    cases fuel with
    | zero => simp [DataW.trod] at h
    | succ n =>
      unfold DataW.trod at h
      rw [ht] at h
      have h' : (if cs.length = P.cellsOf t then (fs.toList.mapM fun f => DataW.trod enc P w 0 spare held n f.type ((cs.drop f.offset).take (P.cellsOf f.type))).map fun xs => (DataW.agg (xs.map (·.1)), xs.flatMap (·.2)) else none) = some x := by
        cases cs with
        | nil => exact h
        | cons c cs => cases cs <;> cases c <;> exact h
      clear h
      split at h'
      · rename_i hl
        obtain ⟨xs, hxs, rfl⟩ := Option.map_eq_some_iff.1 h'
        obtain ⟨y, hk, hg, hw, hz⟩ := ho.run enc w spare held n cs xs hxs
        refine ⟨g y, ?_, by show good (f (g y)); rw [hfg]; exact hg, ?_, fun hn => ?_⟩
        · show d.K w (f (g y)) cs
          rw [hfg]
          rw [List.drop_zero, List.take_of_length_le (by omega)] at hk
          exact hk
        · show wt (f (g y)) + 1 ≤ Rows.uptoBulk (DataW.agg (xs.map (·.1)))
          rw [hfg]
          simp only [Rows.uptoBulk]
          omega
        · show sz (f (g y))
          rw [hfg]
          simp only [DataW.weights, ht] at hn
          exact hz hn
      · cases h'⟩
end
end Go.Proofs.Ytelbgmpeghhakaa.PA
end
section
namespace Go.Proofs.Ytelbgmpeghhakaa.PA
open Go.RowKit Go.Proofs.YtelbgmpeghhakaaW.PrintWords Go.Proofs.YtelbgmpeghhakaaW.PrintLast Go.Proofs.YtelbgmpeghhakaaW.PrintMore
set_option linter.unusedVariables false
instance : Inhabited S25 := ⟨z25⟩
def good25 (x : S25) : Prop := (Lit.int .u8 (x.f0)).wf = true ∧ (Lit.int .u8 (x.f1)).wf = true
def wt25 (x : S25) : Nat := (1 + (1)) + 1
def sz25 (x : S25) : Prop := True ∧ True
theorem opens25 : Opens Try.prog 25 k25 good25 wt25 sz25 :=
  opens_struct (fun x : S25 => (x.f0, x.f1)) (fun p => ⟨p.1, p.2⟩) (fun _ => rfl) Try.underlying25 (by kernel_rfl) (opensF_cons (by kernel_rfl) rfl (opens_int Try.underlying5) (opensF_one (by kernel_rfl) (opens_int Try.underlying5)))
end Go.Proofs.Ytelbgmpeghhakaa.PA
end
section
namespace Go.Proofs.Ytelbgmpeghhakaa.PA
open Go.RowKit Go.Proofs.YtelbgmpeghhakaaW.PrintWords Go.Proofs.YtelbgmpeghhakaaW.PrintLast Go.Proofs.YtelbgmpeghhakaaW.PrintMore
set_option linter.unusedVariables false
def colloquylaw03_GlobRanges.PureU : Prop := ∀ (x0 : List (S25)) (x1 : Bool), ((x0).length ≤ maxLen ∧ ∀ y ∈ x0, good25 (y)) → ((x0).length * 2 ≤ reachBytes ∧ ∀ y ∈ x0, sz25 (y)) → ∃ _ : Nat, colloquylaw03_GlobRanges.f (x0) (x1) = some true
end Go.Proofs.Ytelbgmpeghhakaa.PA
end
section
namespace Go.Proofs.Ytelbgmpeghhakaa.Pure
open Go.RowKit Go.Proofs.Ytelbgmpeghhakaa.PA
set_option linter.unusedVariables false in
theorem GlobRanges : colloquylaw03_GlobRanges.PureU := by
  intro x0 x1 g0 s0
  unfold reachBytes at s0
  exact ⟨0, if_pos ⟨fun r hr => by
    obtain ⟨h1, h2⟩ := g0.2 r hr
    simp [Lit.wf, IntKind.signed, IntKind.min, IntKind.max, IntKind.bits] at h1 h2
    omega, by have := s0.1; omega⟩⟩
end Go.Proofs.Ytelbgmpeghhakaa.Pure
end
section
namespace Go.Proofs.Ytelbgmpeghhakaa.globRanges
open Go.ChangeShapes Go.WideShapes Go.ChangeAt Go.RowKit
open Go.ChangeMaps (open_string shut_string)
open Go.RowKit Go.Proofs.YtelbgmpeghhakaaW.PrintWords Go.Proofs.YtelbgmpeghhakaaW.PrintLast Go.Proofs.YtelbgmpeghhakaaW.PrintMore Go.Proofs.Ytelbgmpeghhakaa.PA
set_option linter.unusedVariables false
set_option linter.unusedSimpArgs false
theorem own : ownKnob Try.prog.godebug = none := by kernel_rfl
theorem laidOut : laidOutB Try.prog = true := by kernel_rfl
set_option maxRecDepth 100000 in
theorem contract (H : Type) (enc : TypeId × Value → H) (W : World) (base : Nat) (args : Array Value) (ds gs : List (DataW H)) (before : List MemPlace)
    (hval0 : ∀ (j : Nat) t v, Try.f3.params[j]? = some t → args[j]? = some v → Value.okWide Try.prog W .any base t v)
    (hW : DataW.Whole enc Try.prog Try.f3.params.toList Rows.globRangesSpec.vars false W args.toList ds gs before)
    (hsz0 : (DataW.weightsEach Try.prog (Try.f3.params.toList ++ Rows.globRangesSpec.plain.varTypes Try.prog) (ds ++ gs)).all (· ≤ reachBytes) = true) :
    Calls Try.prog 3 args W fun e W' => ∃ v, e = .returned v ∧ Rows.globRangesSpec.post enc Try.prog Try.f3 false true false false W args v W' := by
  have hsz : (DataW.weightsEach Try.prog (Try.f3.params.toList ++ Rows.globRangesSpec.plain.varTypes Try.prog) (ds ++ gs)).all (· ≤ reachBytes) = true := hsz0
  have hval : ∀ (j : Nat) t v, Try.f3.params[j]? = some t → args[j]? = some v → Value.okWide Try.prog W .any base t v := hval0
  have hW' := hW
  obtain ⟨p, q, hA0, hV, rfl, hfz, hnd⟩ := hW
  have hA : DataW.TrodAll enc Try.prog W 0 (fun _ => true) true Try.f3.params.toList args.toList ds p := hA0
  rw [Try.params3] at hA hval hsz
  obtain ⟨v0, vs0, d0, ds0, p0, q0, hargs, rfl, rfl, h0, r0⟩ := trodAll_cons hA
  obtain ⟨v1, vs1, d1, ds1, p1, q1, rfl, rfl, rfl, h1, r1⟩ := trodAll_cons r0
  obtain ⟨rfl, rfl, rfl⟩ := trodAll_nil r1
  obtain rfl : args = #[v0, v1] := by cases args; simp_all
  obtain ⟨rfl, rfl⟩ := trodVars_none hV
  have k0 := h0
  have lt0 : ∀ x ∈ p0, x.block < W.heap.size := by obtain ⟨m, hm⟩ := k0; exact DataW.trod_lt m _ _ _ hm
  obtain ⟨fuel0, hf0⟩ := h0
  obtain ⟨x0, hK0, g0, z0, s00⟩ := (opens_slice (b := 2) (by kernel_rfl) Try.underlying22 (by kernel_rfl) opens25).run enc W _ _ fuel0 _ _ hf0
  have s0 := s00 (fun n hn => by have := List.all_eq_true.1 hsz n (DataW.weights_mem_each (j := 0) (t := 22) rfl rfl n hn); simpa using this)
  obtain ⟨a0, len0, cap0, rfl⟩ := okWide_slice Try.underlying22 (hval 0 22 v0 rfl rfl)
  obtain ⟨A0, c0, hcs0, hc0, hr0⟩ := hK0
  obtain ⟨rfl, rfl, rfl⟩ : a0 = A0 ∧ len0 = x0.length ∧ cap0 = c0 := by
    have hcs' : [Value.slice a0 len0 cap0] = [Value.slice A0 x0.length c0] := hcs0
    injection hcs' with e1 _
    injection e1 with e1 e2 e3
    exact ⟨e1, e2, e3⟩
  obtain ⟨x1, rfl, rfl, rfl⟩ := open_bool Try.underlying4 (hval 1 4 v1 rfl rfl) h1
  obtain ⟨k, h⟩ := Pure.GlobRanges x0 x1 g0 s0
  refine (PA.colloquylaw03_GlobRanges.calls (A0 := a0) (c0 := cap0) (l0 := x0) (a1 := x1) (r := true) (w := W) (hr0 := hr0) (hc0 := hc0) (h := h)).mono fun e W' ⟨he, hb⟩ => ?_
  have bel : Below W.heap.size W W' := by first | exact hb | exact Drawn0.below hb
  subst he
  exact ⟨_, rfl, _, _, _, [], _, [], hW', trodAll_mk1 (shut_bool Try.underlying4 _), (trodAll_cons_mk (Below.trod laidOut (by kernel_rfl) (of_decide_eq_true (by kernel_rfl)) k0 bel lt0) (trodAll_cons_mk (shut_bool Try.underlying4 _) trodAll_mk0)), rfl, bel.frame _, fun h => by cases h⟩
set_option maxRecDepth 100000 in
theorem lifted (os : Os) (started : os.Started) (H : Type) (enc : TypeId × Value → H) :
    ReturnsInHanded {} Try.checked os 3 .any (Rows.globRangesSpec.pre6 enc Try.prog Try.f3 Rows.globRangesRow.domain false) (Rows.globRangesSpec.post enc Try.prog Try.f3 false true false false) := by
  refine returnsInHanded_of_change_sized (C := Try.checked) own started (by kernel_rfl) Try.func3
    (ChangeSpec.witness6 (enc := enc) (C := Try.checked) false ⟨#[], #[.slice none 0 0, .bool false], []⟩ 8 (by kernel_rfl) (by kernel_rfl) (by kernel_rfl) (by kernel_rfl)) ?_
  intro W base args ds gs before hval hW _ hsz _
  exact contract H enc W base args ds gs before hval hW hsz
theorem proved : Rows.GlobRangesSaid :=
  OpenClaim.holds_of_wide 3 Try.f3 rfl rfl rfl rfl rfl rfl rfl ⟨rfl, rfl, rfl, rfl, rfl⟩ rfl rfl rfl rfl rfl (by kernel_rfl) Try.func3 (by kernel_rfl)
    (of_decide_eq_true (by kernel_rfl)) (by unfold Func.isWrapper; first | (rw [if_pos (by decide +kernel)]; kernel_rfl) | (rw [if_neg (by decide +kernel)]; exact ⟨rfl, rfl⟩))
    (fun os started H enc _ => lifted os started H enc)
#print axioms proved
end Go.Proofs.Ytelbgmpeghhakaa.globRanges
namespace Go.Proofs.Ytelbgmpeghhakaa
theorem globRanges_holds : Rows.GlobRangesSaid := globRanges.proved
end Go.Proofs.Ytelbgmpeghhakaa
end
