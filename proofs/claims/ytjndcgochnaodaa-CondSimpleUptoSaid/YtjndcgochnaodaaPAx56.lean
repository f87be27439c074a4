/- A Go function of the translation as a plain Lean function, with the proof that the call answers just so. Printed by a program of this session; Lean checks it. -/
import Derived.Test.YtjndcgochnaodaaPAx0
namespace Go.Proofs.Ytjndcgochnaodaa.PA
open Go.RowKit Go.Proofs.YtjndcgochnaodaaW.PrintWords Go.Proofs.YtjndcgochnaodaaW.PrintLast Go.Proofs.YtjndcgochnaodaaW.PrintMore
attribute [local go_sem] max2_int min2_int max_two min_two max_three min_three max_four min_four   -- for this text's walks alone
set_option linter.unusedVariables false
set_option linter.unusedSimpArgs false

/-! ### colloquyref12_Simple: function 19 -/
mutual
def colloquyref12_Simple.j0 : Nat → Bool → Int → Int → ByteArray → ByteArray → List (S24) → Option (Int × ByteArray × ByteArray × (List (S24)))
  | 0, _, _, _, _, _, _ => none
  | k + 1, x1, x5, x359000, x359001, x359002, x359003 => colloquyref12_Simple.l0 k x1 x5 0 x359000 x359001 x359002 x359003 x5 x359001 x359002 ([] : List (S24))
def colloquyref12_Simple.l0 : Nat → Bool → Int → Int → Int → ByteArray → ByteArray → List (S24) → Int → ByteArray → ByteArray → List (S24) → Option (Int × ByteArray × ByteArray × (List (S24)))
  | 0, _, _, _, _, _, _, _, _, _, _, _ => none
  | k + 1, x1, x5, x7, x359000, x359001, x359002, x359003, x368000, x368001, x368002, x368003 => if x7 < (x359003.length : Int) then (if 0 ≤ x7 then ((colloquyref12_Simple.f k ((rd_T24 x359003 x7).f0) ((rd_T24 x359003 x7).f1) ((rd_T24 x359003 x7).f2) ((rd_T24 x359003 x7).f3) x1).bind fun bt369 => (if bt369.1 = x5 then (colloquyref12_Simple.l1 k x1 x5 x7 0 x359000 x359001 x359002 x359003 x368000 x368001 x368002 x368003 bt369.1 bt369.2.1 bt369.2.2.1 bt369.2.2.2) else (if x368003.length < 2199023255552 then (colloquyref12_Simple.l0 k x1 x5 (wrap64 (x7 + 1)) x359000 x359001 x359002 x359003 x368000 x368001 x368002 (x368003 ++ [(⟨bt369.1, bt369.2.1, bt369.2.2.1, bt369.2.2.2⟩ : S24)])) else (none)))) else (none)) else (some (x368000, x368001, x368002, x368003))
def colloquyref12_Simple.l1 : Nat → Bool → Int → Int → Int → Int → ByteArray → ByteArray → List (S24) → Int → ByteArray → ByteArray → List (S24) → Int → ByteArray → ByteArray → List (S24) → Option (Int × ByteArray × ByteArray × (List (S24)))
  | 0, _, _, _, _, _, _, _, _, _, _, _, _, _, _, _, _ => none
  | k + 1, x1, x5, x7, x9, x359000, x359001, x359002, x359003, x368000, x368001, x368002, x368003, x376000, x376001, x376002, x376003 => if x9 < (x376003.length : Int) then (if 0 ≤ x9 then (if x368003.length < 2199023255552 then (colloquyref12_Simple.l1 k x1 x5 x7 (wrap64 (x9 + 1)) x359000 x359001 x359002 x359003 x368000 x368001 x368002 (x368003 ++ [(⟨(rd_T24 x376003 x9).f0, (rd_T24 x376003 x9).f1, (rd_T24 x376003 x9).f2, (rd_T24 x376003 x9).f3⟩ : S24)]) x376000 x376001 x376002 x376003) else (none)) else (none)) else (colloquyref12_Simple.l0 k x1 x5 (wrap64 (x7 + 1)) x359000 x359001 x359002 x359003 x368000 x368001 x368002 x368003)
def colloquyref12_Simple.f : Nat → Int → ByteArray → ByteArray → List (S24) → Bool → Option (Int × ByteArray × ByteArray × (List (S24)))
  | 0, _, _, _, _, _ => none
  | k + 1, a0_0, a0_1, a0_2, l0_3, a1 => if a0_0 = 3 then (if 0 < (l0_3.length : Int) then ((colloquyref12_Simple.f k ((rd_T24 l0_3 0).f0) ((rd_T24 l0_3 0).f1) ((rd_T24 l0_3 0).f2) ((rd_T24 l0_3 0).f3) (!a1)).bind fun bt361 => (some (bt361.1, bt361.2.1, bt361.2.2.1, bt361.2.2.2))) else (none)) else (if a1 = true then (if a0_0 = 1 then (colloquyref12_Simple.j0 k a1 2 a0_0 a0_1 a0_2 l0_3) else (if a0_0 = 2 then (colloquyref12_Simple.j0 k a1 1 a0_0 a0_1 a0_2 l0_3) else (if a0_0 = 4 then (colloquyref12_Simple.j0 k a1 5 a0_0 a0_1 a0_2 l0_3) else (if a0_0 = 5 then (colloquyref12_Simple.j0 k a1 4 a0_0 a0_1 a0_2 l0_3) else (colloquyref12_Simple.j0 k a1 a0_0 a0_0 a0_1 a0_2 l0_3))))) else (colloquyref12_Simple.j0 k a1 a0_0 a0_0 a0_1 a0_2 l0_3))
end
theorem colloquyref12_Simple.mono_l : ∀ k, (∀ y0 y1 y2 y3 y4, LeO (colloquyref12_Simple.f k y0 y1 y2 y3 y4) (colloquyref12_Simple.f (k + 1) y0 y1 y2 y3 y4)) ∧ (∀ y0 y1 y2 y3 y4 y5, LeO (colloquyref12_Simple.j0 k y0 y1 y2 y3 y4 y5) (colloquyref12_Simple.j0 (k + 1) y0 y1 y2 y3 y4 y5)) ∧ (∀ y0 y1 y2 y3 y4 y5 y6 y7 y8 y9 y10, LeO (colloquyref12_Simple.l0 k y0 y1 y2 y3 y4 y5 y6 y7 y8 y9 y10) (colloquyref12_Simple.l0 (k + 1) y0 y1 y2 y3 y4 y5 y6 y7 y8 y9 y10)) ∧ (∀ y0 y1 y2 y3 y4 y5 y6 y7 y8 y9 y10 y11 y12 y13 y14 y15, LeO (colloquyref12_Simple.l1 k y0 y1 y2 y3 y4 y5 y6 y7 y8 y9 y10 y11 y12 y13 y14 y15) (colloquyref12_Simple.l1 (k + 1) y0 y1 y2 y3 y4 y5 y6 y7 y8 y9 y10 y11 y12 y13 y14 y15))
  | 0 => ⟨fun _ _ _ _ _ r h => by simp [colloquyref12_Simple.f] at h, fun _ _ _ _ _ _ r h => by simp [colloquyref12_Simple.j0] at h, fun _ _ _ _ _ _ _ _ _ _ _ r h => by simp [colloquyref12_Simple.l0] at h, fun _ _ _ _ _ _ _ _ _ _ _ _ _ _ _ _ r h => by simp [colloquyref12_Simple.l1] at h⟩
  | k + 1 => by
    obtain ⟨ih0, ih1, ih2, ih3⟩ := colloquyref12_Simple.mono_l k
    refine ⟨?_, ?_, ?_, ?_⟩
    · intro y0 y1 y2 y3 y4
      unfold colloquyref12_Simple.f
      repeat' first
      | (with_reducible exact ih0 _ _ _ _ _)
      | (with_reducible exact ih1 _ _ _ _ _ _)
      | (with_reducible exact ih2 _ _ _ _ _ _ _ _ _ _ _)
      | (with_reducible exact ih3 _ _ _ _ _ _ _ _ _ _ _ _ _ _ _ _)
      | (with_reducible exact LeO.refl _)
      | (with_reducible exact LeO.none _)
      | (with_reducible refine LeO.ite ?_ ?_)
      | (with_reducible refine LeO.bind ?_ (fun _ => ?_))
      | exact ih0 _ _ _ _ _
      | exact ih1 _ _ _ _ _ _
      | exact ih2 _ _ _ _ _ _ _ _ _ _ _
      | exact ih3 _ _ _ _ _ _ _ _ _ _ _ _ _ _ _ _
      | exact LeO.none _
      | refine LeO.ite ?_ ?_
      | refine LeO.bind ?_ (fun _ => ?_)
    · intro y0 y1 y2 y3 y4 y5
      unfold colloquyref12_Simple.j0
      repeat' first
      | (with_reducible exact ih0 _ _ _ _ _)
      | (with_reducible exact ih1 _ _ _ _ _ _)
      | (with_reducible exact ih2 _ _ _ _ _ _ _ _ _ _ _)
      | (with_reducible exact ih3 _ _ _ _ _ _ _ _ _ _ _ _ _ _ _ _)
      | (with_reducible exact LeO.refl _)
      | (with_reducible exact LeO.none _)
      | (with_reducible refine LeO.ite ?_ ?_)
      | (with_reducible refine LeO.bind ?_ (fun _ => ?_))
      | exact ih0 _ _ _ _ _
      | exact ih1 _ _ _ _ _ _
      | exact ih2 _ _ _ _ _ _ _ _ _ _ _
      | exact ih3 _ _ _ _ _ _ _ _ _ _ _ _ _ _ _ _
      | exact LeO.none _
      | refine LeO.ite ?_ ?_
      | refine LeO.bind ?_ (fun _ => ?_)
    · intro y0 y1 y2 y3 y4 y5 y6 y7 y8 y9 y10
      unfold colloquyref12_Simple.l0
      repeat' first
      | (with_reducible exact ih0 _ _ _ _ _)
      | (with_reducible exact ih1 _ _ _ _ _ _)
      | (with_reducible exact ih2 _ _ _ _ _ _ _ _ _ _ _)
      | (with_reducible exact ih3 _ _ _ _ _ _ _ _ _ _ _ _ _ _ _ _)
      | (with_reducible exact LeO.refl _)
      | (with_reducible exact LeO.none _)
      | (with_reducible refine LeO.ite ?_ ?_)
      | (with_reducible refine LeO.bind ?_ (fun _ => ?_))
      | exact ih0 _ _ _ _ _
      | exact ih1 _ _ _ _ _ _
      | exact ih2 _ _ _ _ _ _ _ _ _ _ _
      | exact ih3 _ _ _ _ _ _ _ _ _ _ _ _ _ _ _ _
      | exact LeO.none _
      | refine LeO.ite ?_ ?_
      | refine LeO.bind ?_ (fun _ => ?_)
    · intro y0 y1 y2 y3 y4 y5 y6 y7 y8 y9 y10 y11 y12 y13 y14 y15
      unfold colloquyref12_Simple.l1
      repeat' first
      | (with_reducible exact ih0 _ _ _ _ _)
      | (with_reducible exact ih1 _ _ _ _ _ _)
      | (with_reducible exact ih2 _ _ _ _ _ _ _ _ _ _ _)
      | (with_reducible exact ih3 _ _ _ _ _ _ _ _ _ _ _ _ _ _ _ _)
      | (with_reducible exact LeO.refl _)
      | (with_reducible exact LeO.none _)
      | (with_reducible refine LeO.ite ?_ ?_)
      | (with_reducible refine LeO.bind ?_ (fun _ => ?_))
      | exact ih0 _ _ _ _ _
      | exact ih1 _ _ _ _ _ _
      | exact ih2 _ _ _ _ _ _ _ _ _ _ _
      | exact ih3 _ _ _ _ _ _ _ _ _ _ _ _ _ _ _ _
      | exact LeO.none _
      | refine LeO.ite ?_ ?_
      | refine LeO.bind ?_ (fun _ => ?_)
theorem colloquyref12_Simple.mono : ∀ a0 a1 a2 a3 a4 k, LeO (colloquyref12_Simple.f k a0 a1 a2 a3 a4) (colloquyref12_Simple.f (k + 1) a0 a1 a2 a3 a4) := by
  intro a0 a1 a2 a3 a4 k
  obtain ⟨ih0, ih1, ih2, ih3⟩ := colloquyref12_Simple.mono_l k
  exact ih0 a0 a1 a2 a3 a4
def colloquyref12_Simple.T23 : Bool × List (List Nat × List Nat) := (true, [([], []), ([0], [0]), ([], []), ([2], [2]), ([], []), ([3, 4], [3, 4]), ([5], [5]), ([6], [6]), ([1, 7], [1, 7]), ([0, 1, 2, 3, 4, 5, 6, 7, 8], []), ([9, 8, 8, 0, 1, 2, 3, 4, 5, 6, 7, 8], [8, 9])])
def colloquyref12_Simple.B23 : List Nat := [0, 1, 0, 4, 0, 28, 60, 124, 255, 511, 1023]
theorem colloquyref12_Simple.tab23 : rtab .any (opsOf Try.f19 23) = colloquyref12_Simple.T23 := by kernel_rfl
theorem colloquyref12_Simple.bits23 : waitsOk colloquyref12_Simple.T23.2 colloquyref12_Simple.B23 = true := by kernel_rfl
set_option maxHeartbeats 8000000 in
set_option maxRecDepth 100000 in
theorem colloquyref12_Simple.calls (k : Nat) : ∀ (a0_0 : Int) (a0_1 : ByteArray) (a0_2 : ByteArray) (A0_3 : Option Addr) (c0_3 : Nat) (l0_3 : List (S24)) (a1 : Bool) (r1 : Int) (r2 : ByteArray) (r3 : ByteArray) (r4 : List (S24)) (w : World) (hr0_3 : Kd.C k24 w A0_3 l0_3.length l0_3) (hc0_3 : l0_3.length ≤ c0_3) (h : colloquyref12_Simple.f k a0_0 a0_1 a0_2 l0_3 a1 = some (r1, r2, r3, r4)),
    Calls Try.prog 19 #[.agg #[.int .i64 a0_0, .string a0_1, .string a0_2, .slice A0_3 l0_3.length c0_3], .bool a1] w fun e w' => ∃ v3_ : Value, e = .returned (.agg #[.int .i64 r1, .string r2, .string r3, v3_]) ∧ Kd.N k24 24 w' w.heap.size (fun k_ => (w.heap.size ≤ k_)) v3_ r4 ∧ Below w.heap.size w w' := by
  induction k using Nat.strongRecOn with
  | _ k ih =>
  intro a0_0 a0_1 a0_2 A0_3 c0_3 l0_3 a1 r1 r2 r3 r4 w hr0_3 hc0_3 h
  cases k with
  | zero => exact absurd h (by simp [colloquyref12_Simple.f])
  | succ k =>
  simp only [colloquyref12_Simple.f] at h
  have hu24 := Try.underlying24
  have HR0_3 := Aside0.mk hr0_3
  have HC0_3 := Aside0.mk hc0_3
  clear hr0_3 hc0_3
  have HB := Aside0.mk (Below.refl w.heap.size w)
  have H : (if a0_0 = 3 then (if 0 < (l0_3.length : Int) then ((colloquyref12_Simple.f k ((rd_T24 l0_3 0).f0) ((rd_T24 l0_3 0).f1) ((rd_T24 l0_3 0).f2) ((rd_T24 l0_3 0).f3) (!a1)).bind fun bt361 => (some (bt361.1, bt361.2.1, bt361.2.2.1, bt361.2.2.2))) else (none)) else (if a1 = true then (if a0_0 = 1 then (colloquyref12_Simple.j0 k a1 2 a0_0 a0_1 a0_2 l0_3) else (if a0_0 = 2 then (colloquyref12_Simple.j0 k a1 1 a0_0 a0_1 a0_2 l0_3) else (if a0_0 = 4 then (colloquyref12_Simple.j0 k a1 5 a0_0 a0_1 a0_2 l0_3) else (if a0_0 = 5 then (colloquyref12_Simple.j0 k a1 4 a0_0 a0_1 a0_2 l0_3) else (colloquyref12_Simple.j0 k a1 a0_0 a0_0 a0_1 a0_2 l0_3))))) else (colloquyref12_Simple.j0 k a1 a0_0 a0_0 a0_1 a0_2 l0_3))) = some (r1, r2, r3, r4) := h
  clear h
  by_cases c3 : a0_0 = 3
  · rw [if_pos c3] at H
    have c3b0 : (a0_0 == 3) = true := beq_iff_eq.mpr c3
    have c3b1 : (a0_0 != 3) = false := bne_eq_false_iff_eq.mpr c3
    clear c3
    by_cases c4 : 0 < (l0_3.length : Int)
    · rw [if_pos c4] at H
      have c4b0 : decide (0 < (l0_3.length : Int)) = true := decide_eq_true c4
      have c4b1 : decide (0 < l0_3.length) = true := decide_eq_true (by omega)
      clear c4
      replace H := Option.bind_eq_some_iff.mp H
      obtain ⟨⟨t361, t362, t363, t364⟩, A50, H⟩ := H
      replace H : (some (t361, t362, t363, t364)) = some (r1, r2, r3, r4) := H
      have A5 := Aside0.mk A50
      clear A50
      simp only [Option.some.injEq, Prod.mk.injEq] at H
      obtain ⟨rfl, rfl, rfl, rfl⟩ := H
      go_enter Try.func19, Try.ntmps19
      go_wp2_with (first | ((with_reducible refine gate_dst (N := 2) rfl ?_); refine box_event ?hg (N := 2) ?hd (cs := #[.int .i64 a0_0, .string a0_1, .string a0_2, .slice A0_3 l0_3.length c0_3]) (t := 24) ?hr ?_; (case hd => rfl); (case hg => rfl); (case hr => first | (go_simp; done) | (go_simp; rfl)); intro gb358 hg w6 hbox hb; have n0_ := Aside0.mk (below_step (by repeat (first | (with_reducible first | exact HB.out | apply below_alloc | apply pw_below_drewN | apply below_drew1) | exact HB.out)) hb); have n1_ := Aside0.mk (hbox); have n2_ := Aside0.mk ((by rw [hg]; exact (below_size (by repeat (first | (with_reducible first | exact HB.out | apply below_alloc | apply pw_below_drewN | apply below_drew1) | exact HB.out))) : w.heap.size ≤ gb358)); have n3_ := Aside0.mk ((by rw [hg]; exact (below_size (by repeat (first | (with_reducible first | exact HB.out | apply below_alloc | apply pw_below_drewN | apply below_drew1) | exact HB.out))) : w.heap.size ≤ gb358)); clear HB; have HB := n0_; have BK358 := n1_; have GW358 := n2_; have GE358 := n3_; clear n0_ n1_ n2_ n3_; clear hb hbox hg) | ((with_reducible refine gate_dst (N := 4) rfl ?_); refine box_event ?hg (N := 4) ?hd (cs := #[.int .i64 0, .string (⟨#[]⟩ : ByteArray), .string (⟨#[]⟩ : ByteArray), .slice none 0 0]) (t := 24) ?hr ?_; (case hd => rfl); (case hg => rfl); (case hr => first | (go_simp; done) | (go_simp; rfl)); intro gb359 hg w7 hbox hb; have n0_ := Aside0.mk (blk_below (g := gb358) (o := .cells #[.int .i64 a0_0, .string a0_1, .string a0_2, .slice A0_3 l0_3.length c0_3] 24 (0, 0)) (by (with_reducible repeat (first | refine blk_drewN ?_ _ | refine blk_drew ?_ | refine blk_alloc ?_ _)); exact BK358.out) hb); have n1_ := Aside0.mk (below_step (by repeat (first | (with_reducible first | exact HB.out | apply below_alloc | apply pw_below_drewN | apply below_drew1 | refine below_set ?_ GE358.out) | exact HB.out)) hb); have n2_ := Aside0.mk (hbox); have n3_ := Aside0.mk ((by rw [hg]; exact (below_size (by repeat (first | (with_reducible first | exact HB.out | apply below_alloc | apply pw_below_drewN | apply below_drew1 | refine below_set ?_ GE358.out) | exact HB.out))) : w.heap.size ≤ gb359)); have n4_ := Aside0.mk ((by rw [hg]; exact (below_size (by repeat (first | (with_reducible first | exact HB.out | apply below_alloc | apply pw_below_drewN | apply below_drew1 | refine below_set ?_ GE358.out) | exact HB.out))) : w.heap.size ≤ gb359)); have n5_ := Aside0.mk ((by rw [hg]; exact Nat.ne_of_lt (blk_lt (g := gb358) (o := .cells #[.int .i64 a0_0, .string a0_1, .string a0_2, .slice A0_3 l0_3.length c0_3] 24 (0, 0)) (by (with_reducible repeat (first | refine blk_drewN ?_ _ | refine blk_drew ?_ | refine blk_alloc ?_ _)); exact BK358.out)) : gb358 ≠ gb359)); have n6_ := Aside0.mk ((by rw [hg]; exact Nat.ne_of_gt (blk_lt (g := gb358) (o := .cells #[.int .i64 a0_0, .string a0_1, .string a0_2, .slice A0_3 l0_3.length c0_3] 24 (0, 0)) (by (with_reducible repeat (first | refine blk_drewN ?_ _ | refine blk_drew ?_ | refine blk_alloc ?_ _)); exact BK358.out)) : gb359 ≠ gb358)); clear BK358; clear HB; have BK358 := n0_; have HB := n1_; have BK359 := n2_; have GW359 := n3_; have GE359 := n4_; have NB358_359 := n5_; have NB359_358 := n6_; clear n0_ n1_ n2_ n3_ n4_ n5_ n6_; clear hb hbox hg; have hnb8 := NB358_359.out; have hnc8 := NB359_358.out; have hcz9_0 : w7.cell? ⟨gb358, 0, none⟩ = some (.int .i64 a0_0) := (blk_cell BK358.out 0).trans rfl; have hcz9_1 : w7.cell? ⟨gb358, 1, none⟩ = some (.string a0_1) := (blk_cell BK358.out 1).trans rfl; have hcz9_2 : w7.cell? ⟨gb358, 2, none⟩ = some (.string a0_2) := (blk_cell BK358.out 2).trans rfl; have hcz9_3 : w7.cell? ⟨gb358, 3, none⟩ = some (.slice A0_3 l0_3.length c0_3) := (blk_cell BK358.out 3).trans rfl; have hfz9_0 := blk_frozen BK358.out 0; have hfz9_1 := blk_frozen BK358.out 1; have hfz9_2 := blk_frozen BK358.out 2; have hfz9_3 := blk_frozen BK358.out 3; have p360 : 0 ≤ (0 : Int) := (by omega); have q360 : 0 < (l0_3.length : Int) := of_decide_eq_true (by first | (with_reducible assumption) | assumption); obtain ⟨ad360, A360_3, c360_3, e360, hx360_0, hx360_1, hx360_2, hx360_3, hl360_3, hi360_3⟩ := at_T24 HR0_3.out 0 p360 q360; cases e360; have qi360 : (0 < l0_3.length) = True := eq_true (by omega); (try rw [show ((0 : Int)).toNat = 0 from rfl] at hx360_0); (try rw [show 0 * 4 = 0 from rfl] at hx360_0); (try rw [Addr.add_zero'] at hx360_0); (try rw [show ((0 : Int)).toNat = 0 from rfl] at hx360_1); (try rw [show 0 * 4 = 0 from rfl] at hx360_1); (try rw [Addr.add_zero'] at hx360_1); (try rw [show ((0 : Int)).toNat = 0 from rfl] at hx360_2); (try rw [show 0 * 4 = 0 from rfl] at hx360_2); (try rw [Addr.add_zero'] at hx360_2); (try rw [show ((0 : Int)).toNat = 0 from rfl] at hx360_3); (try rw [show 0 * 4 = 0 from rfl] at hx360_3); (try rw [Addr.add_zero'] at hx360_3); replace hx360_0 := (HB.out.cell (World.block_lt_of_cell? w _ hx360_0)).trans hx360_0; replace hx360_1 := (HB.out.cell (World.block_lt_of_cell? w _ hx360_1)).trans hx360_1; replace hx360_2 := (HB.out.cell (World.block_lt_of_cell? w _ hx360_2)).trans hx360_2; replace hx360_3 := (HB.out.cell (World.block_lt_of_cell? w _ hx360_3)).trans hx360_3; have HR360_3 := Aside0.mk hi360_3; have HC360_3 := Aside0.mk hl360_3; clear hi360_3 hl360_3; replace p360 := eq_true p360; replace q360 := eq_true q360) | ((with_reducible refine gate_callee (f := 19) rfl ?_); refine goesL_ (some 19) rfl rfl Try.func19 (by kernel_rfl) rfl #[.agg #[.int .i64 ((rd_T24 l0_3 0).f0), .string ((rd_T24 l0_3 0).f1), .string ((rd_T24 l0_3 0).f2), .slice A360_3 ((rd_T24 l0_3 0).f3).length c360_3], .bool (!a1)] rfl (by (try simp only [List.map_toArray, List.map_cons, List.map_nil]); first | done | rfl | (simp only [List.length_drop, List.length_take]; rfl)) ?_; (with_reducible refine (ih k (by omega) ((rd_T24 l0_3 0).f0) ((rd_T24 l0_3 0).f1) ((rd_T24 l0_3 0).f2) _ _ ((rd_T24 l0_3 0).f3) (!a1) t361 t362 t363 t364 _ ?side1 ?side2 A5.out).mono ?_); (case side1 => repeat (first | exact (Kd.C_below HR360_3.out HB.out) | (with_reducible refine Kd.C_alloc ?_ _) | (with_reducible refine Kd.C_drewN ?_ _) | (with_reducible refine Kd.C_drew ?_))); (case side2 => exact HC360_3.out); rintro e w10 ⟨v365, rfl, ho0, hb⟩; refine ⟨_, rfl, ?_⟩; have n0_ := Aside0.mk (Kd.N_lower (Kd.N_mono (ok' := fun k_ => (w.heap.size ≤ k_) ∧ k_ ≠ gb358 ∧ k_ ≠ gb359) ho0 (fun k_ hk_ => ⟨(Nat.le_trans (below_size (by repeat (first | (with_reducible first | exact HB.out | apply below_alloc | apply pw_below_drewN | apply below_drew1 | refine below_set ?_ GE358.out | refine below_set ?_ GE359.out) | exact HB.out))) hk_), (Kd.freshB (g := gb358) (o := .cells #[.int .i64 a0_0, .string a0_1, .string a0_2, .slice (some ad360) l0_3.length c0_3] 24 (0, 0)) (by (with_reducible repeat (first | refine blk_drewN ?_ _ | refine blk_drew ?_ | refine blk_alloc ?_ _)); exact BK358.out) k_ hk_), (Kd.freshB (g := gb359) (o := .cells #[.int .i64 0, .string (⟨#[]⟩ : ByteArray), .string (⟨#[]⟩ : ByteArray), .slice none 0 0] 24 (0, 0)) (by (with_reducible repeat (first | refine blk_drewN ?_ _ | refine blk_drew ?_ | refine blk_alloc ?_ _)); exact BK359.out) k_ hk_)⟩)) (below_size (by repeat (first | (with_reducible first | exact HB.out | apply below_alloc | apply pw_below_drewN | apply below_drew1 | refine below_set ?_ GE358.out | refine below_set ?_ GE359.out) | exact HB.out)))); have n1_ := Aside0.mk (blk_below (g := gb358) (o := .cells #[.int .i64 a0_0, .string a0_1, .string a0_2, .slice (some ad360) l0_3.length c0_3] 24 (0, 0)) (by (with_reducible repeat (first | refine blk_drewN ?_ _ | refine blk_drew ?_ | refine blk_alloc ?_ _)); exact BK358.out) hb); have n2_ := Aside0.mk (blk_below (g := gb359) (o := .cells #[.int .i64 0, .string (⟨#[]⟩ : ByteArray), .string (⟨#[]⟩ : ByteArray), .slice none 0 0] 24 (0, 0)) (by (with_reducible repeat (first | refine blk_drewN ?_ _ | refine blk_drew ?_ | refine blk_alloc ?_ _)); exact BK359.out) hb); have n3_ := Aside0.mk (below_step (by repeat (first | (with_reducible first | exact HB.out | apply below_alloc | apply pw_below_drewN | apply below_drew1 | refine below_set ?_ GE358.out | refine below_set ?_ GE359.out) | exact HB.out)) hb); clear BK358; clear BK359; clear HB; have HO366 := n0_; have BK358 := n1_; have BK359 := n2_; have HB := n3_; clear n0_ n1_ n2_ n3_; (try clear hb); (try clear hb2); (try clear hk); (try clear hi); (try clear ho0); have hcz11_0 : w10.cell? ⟨gb359, 0, none⟩ = some (.int .i64 0) := (blk_cell BK359.out 0).trans rfl; have hcz11_1 : w10.cell? ⟨gb359, 1, none⟩ = some (.string (⟨#[]⟩ : ByteArray)) := (blk_cell BK359.out 1).trans rfl; have hcz11_2 : w10.cell? ⟨gb359, 2, none⟩ = some (.string (⟨#[]⟩ : ByteArray)) := (blk_cell BK359.out 2).trans rfl; have hcz11_3 : w10.cell? ⟨gb359, 3, none⟩ = some (.slice none 0 0) := (blk_cell BK359.out 3).trans rfl; have hfz11_0 := blk_frozen BK359.out 0; have hfz11_1 := blk_frozen BK359.out 1; have hfz11_2 := blk_frozen BK359.out 2; have hfz11_3 := blk_frozen BK359.out 3; obtain ⟨Ao12, co12, eo12⟩ := Kd.N_slice HO366.out; subst eo12))
      refine bodyPost_ret (results_cell_row rfl _ _ gb359 24 #[.int .i64 t361, .string t362, .string t363, .slice Ao12 t364.length co12] (0, 0) _ rfl (by (with_reducible repeat (first | refine blk_drewN ?_ _ | refine blk_drew ?_ | refine blk_alloc ?_ _)); refine blk_put (cs := #[.int .i64 t361, .string t362, .string t363, .slice none 0 0]) ?_ 3 _ rfl; (with_reducible repeat (first | refine blk_drewN ?_ _ | refine blk_drew ?_ | refine blk_alloc ?_ _)); refine blk_put (cs := #[.int .i64 t361, .string t362, .string (⟨#[]⟩ : ByteArray), .slice none 0 0]) ?_ 2 _ rfl; (with_reducible repeat (first | refine blk_drewN ?_ _ | refine blk_drew ?_ | refine blk_alloc ?_ _)); refine blk_put (cs := #[.int .i64 t361, .string (⟨#[]⟩ : ByteArray), .string (⟨#[]⟩ : ByteArray), .slice none 0 0]) ?_ 1 _ rfl; (with_reducible repeat (first | refine blk_drewN ?_ _ | refine blk_drew ?_ | refine blk_alloc ?_ _)); refine blk_put (cs := #[.int .i64 0, .string (⟨#[]⟩ : ByteArray), .string (⟨#[]⟩ : ByteArray), .slice none 0 0]) ?_ 0 _ rfl; (with_reducible repeat (first | refine blk_drewN ?_ _ | refine blk_drew ?_ | refine blk_alloc ?_ _)); exact BK359.out) Try.underlying24 rfl (by kernel_rfl)) rfl ?_
      exact ⟨_, by first | rfl | (simp [errW_none, errW_some] <;> rfl) | (simp [*, errW_none, errW_some] <;> rfl), by (with_reducible repeat (first | apply Kd.N_alloc | apply Kd.N_drewN | apply Kd.N_drew)); exact Kd.N_mono (Kd.N_far (p := ⟨gb359, 3, none⟩) (Kd.N_far (p := ⟨gb359, 2, none⟩) (Kd.N_far (p := ⟨gb359, 1, none⟩) (Kd.N_far (p := ⟨gb359, 0, none⟩) (Kd.N_mono HO366.out (fun k_ hk => (⟨hk, hk.2.2⟩ : _ ∧ k_ ≠ gb359))) (fun _ hk => hk.2) (.int .i64 t361)) (fun _ hk => hk.2) (.string t362)) (fun _ hk => hk.2) (.string t363)) (fun _ hk => hk.2) (.slice Ao12 t364.length co12)) (fun _ hk => hk.1.1), by repeat (first | (with_reducible first | exact HB.out | apply below_alloc | apply pw_below_drewN | apply below_drew1 | refine below_set ?_ GE358.out | refine below_set ?_ GE359.out) | exact HB.out)⟩
    · rw [if_neg c4] at H
      exact absurd H (by simp)
  · rw [if_neg c3] at H
    have c3b0 : (a0_0 == 3) = false := beq_eq_false_iff_ne.mpr c3
    have c3b1 : (a0_0 != 3) = true := bne_iff_ne.mpr c3
    have HC13 := Aside0.mk H
    clear H
    go_enter Try.func19, Try.ntmps19
    go_upto_if 22 with (first | ((with_reducible refine gate_dst (N := 2) rfl ?_); refine box_event ?hg (N := 2) ?hd (cs := #[.int .i64 a0_0, .string a0_1, .string a0_2, .slice A0_3 l0_3.length c0_3]) (t := 24) ?hr ?_; (case hd => rfl); (case hg => rfl); (case hr => first | (go_simp; done) | (go_simp; rfl)); intro gb358 hg w14 hbox hb; have n0_ := Aside0.mk (below_step (by repeat (first | (with_reducible first | exact HB.out | apply below_alloc | apply pw_below_drewN | apply below_drew1) | exact HB.out)) hb); have n1_ := Aside0.mk (hbox); have n2_ := Aside0.mk ((by rw [hg]; exact (below_size (by repeat (first | (with_reducible first | exact HB.out | apply below_alloc | apply pw_below_drewN | apply below_drew1) | exact HB.out))) : w.heap.size ≤ gb358)); have n3_ := Aside0.mk ((by rw [hg]; exact (below_size (by repeat (first | (with_reducible first | exact HB.out | apply below_alloc | apply pw_below_drewN | apply below_drew1) | exact HB.out))) : w.heap.size ≤ gb358)); clear HB; have HB := n0_; have BK358 := n1_; have GW358 := n2_; have GE358 := n3_; clear n0_ n1_ n2_ n3_; clear hb hbox hg) | ((with_reducible refine gate_dst (N := 4) rfl ?_); refine box_event ?hg (N := 4) ?hd (cs := #[.int .i64 0, .string (⟨#[]⟩ : ByteArray), .string (⟨#[]⟩ : ByteArray), .slice none 0 0]) (t := 24) ?hr ?_; (case hd => rfl); (case hg => rfl); (case hr => first | (go_simp; done) | (go_simp; rfl)); intro gb359 hg w15 hbox hb; have n0_ := Aside0.mk (blk_below (g := gb358) (o := .cells #[.int .i64 a0_0, .string a0_1, .string a0_2, .slice A0_3 l0_3.length c0_3] 24 (0, 0)) (by (with_reducible repeat (first | refine blk_drewN ?_ _ | refine blk_drew ?_ | refine blk_alloc ?_ _)); exact BK358.out) hb); have n1_ := Aside0.mk (below_step (by repeat (first | (with_reducible first | exact HB.out | apply below_alloc | apply pw_below_drewN | apply below_drew1 | refine below_set ?_ GE358.out) | exact HB.out)) hb); have n2_ := Aside0.mk (hbox); have n3_ := Aside0.mk ((by rw [hg]; exact (below_size (by repeat (first | (with_reducible first | exact HB.out | apply below_alloc | apply pw_below_drewN | apply below_drew1 | refine below_set ?_ GE358.out) | exact HB.out))) : w.heap.size ≤ gb359)); have n4_ := Aside0.mk ((by rw [hg]; exact (below_size (by repeat (first | (with_reducible first | exact HB.out | apply below_alloc | apply pw_below_drewN | apply below_drew1 | refine below_set ?_ GE358.out) | exact HB.out))) : w.heap.size ≤ gb359)); have n5_ := Aside0.mk ((by rw [hg]; exact Nat.ne_of_lt (blk_lt (g := gb358) (o := .cells #[.int .i64 a0_0, .string a0_1, .string a0_2, .slice A0_3 l0_3.length c0_3] 24 (0, 0)) (by (with_reducible repeat (first | refine blk_drewN ?_ _ | refine blk_drew ?_ | refine blk_alloc ?_ _)); exact BK358.out)) : gb358 ≠ gb359)); have n6_ := Aside0.mk ((by rw [hg]; exact Nat.ne_of_gt (blk_lt (g := gb358) (o := .cells #[.int .i64 a0_0, .string a0_1, .string a0_2, .slice A0_3 l0_3.length c0_3] 24 (0, 0)) (by (with_reducible repeat (first | refine blk_drewN ?_ _ | refine blk_drew ?_ | refine blk_alloc ?_ _)); exact BK358.out)) : gb359 ≠ gb358)); clear BK358; clear HB; have BK358 := n0_; have HB := n1_; have BK359 := n2_; have GW359 := n3_; have GE359 := n4_; have NB358_359 := n5_; have NB359_358 := n6_; clear n0_ n1_ n2_ n3_ n4_ n5_ n6_; clear hb hbox hg; have hnb16 := NB358_359.out; have hnc16 := NB359_358.out; have hcz17_0 : w15.cell? ⟨gb358, 0, none⟩ = some (.int .i64 a0_0) := (blk_cell BK358.out 0).trans rfl; have hcz17_1 : w15.cell? ⟨gb358, 1, none⟩ = some (.string a0_1) := (blk_cell BK358.out 1).trans rfl; have hcz17_2 : w15.cell? ⟨gb358, 2, none⟩ = some (.string a0_2) := (blk_cell BK358.out 2).trans rfl; have hcz17_3 : w15.cell? ⟨gb358, 3, none⟩ = some (.slice A0_3 l0_3.length c0_3) := (blk_cell BK358.out 3).trans rfl; have hfz17_0 := blk_frozen BK358.out 0; have hfz17_1 := blk_frozen BK358.out 1; have hfz17_2 := blk_frozen BK358.out 2; have hfz17_3 := blk_frozen BK358.out 3))
    (try simp only [Act.put, List.setIfInBounds_toArray, List.set_cons_zero, List.set_cons_succ])
    go_cut [5] (fun v5 wc => ∃ (kq : Nat) (x5_12 : Int), v5 = .int .i64 x5_12 ∧ Aside0 (colloquyref12_Simple.j0 kq a1 x5_12 a0_0 a0_1 a0_2 l0_3 = some (r1, r2, r3, r4)) ∧ Aside0 (kq ≤ k) ∧ Aside0 (wc.heap[gb358]? = some (.cells #[.int .i64 a0_0, .string a0_1, .string a0_2, (.slice A0_3 l0_3.length c0_3)] 24 (0, 0))) ∧ Aside0 (wc.heap[gb359]? = some (.cells #[.int .i64 0, .string (⟨#[]⟩ : ByteArray), .string (⟨#[]⟩ : ByteArray), (.slice none 0 0)] 24 (0, 0))) ∧ Aside0 (Below w.heap.size w wc))
    case first =>
      have H := HC13.out
      clear HC13
      by_cases c18 : a1 = true
      · subst c18
        have H1 : (if a0_0 = 1 then (colloquyref12_Simple.j0 k true 2 a0_0 a0_1 a0_2 l0_3) else (if a0_0 = 2 then (colloquyref12_Simple.j0 k true 1 a0_0 a0_1 a0_2 l0_3) else (if a0_0 = 4 then (colloquyref12_Simple.j0 k true 5 a0_0 a0_1 a0_2 l0_3) else (if a0_0 = 5 then (colloquyref12_Simple.j0 k true 4 a0_0 a0_1 a0_2 l0_3) else (colloquyref12_Simple.j0 k true a0_0 a0_0 a0_1 a0_2 l0_3))))) = some (r1, r2, r3, r4) := by rw [if_pos rfl] at H; exact H
        clear H
        have H := H1
        clear H1
        by_cases c19 : a0_0 = 1
        · rw [if_pos c19] at H
          have c19b0 : (a0_0 == 1) = true := beq_iff_eq.mpr c19
          have c19b1 : (a0_0 != 1) = false := bne_eq_false_iff_eq.mpr c19
          clear c19
          (first | rw [c19b0] | rw [c19b1] | (simp only [i64_w, i32_w]; rw [c19b0]) | skip)
          have H' := Aside0.mk H
          clear H
          have hnb20 := NB358_359.out
          have hnc20 := NB359_358.out
          have hcz21_0 : w15.cell? ⟨gb358, 0, none⟩ = some (.int .i64 a0_0) := (blk_cell BK358.out 0).trans rfl
          have hcz21_1 : w15.cell? ⟨gb358, 1, none⟩ = some (.string a0_1) := (blk_cell BK358.out 1).trans rfl
          have hcz21_2 : w15.cell? ⟨gb358, 2, none⟩ = some (.string a0_2) := (blk_cell BK358.out 2).trans rfl
          have hcz21_3 : w15.cell? ⟨gb358, 3, none⟩ = some (.slice A0_3 l0_3.length c0_3) := (blk_cell BK358.out 3).trans rfl
          have hfz21_0 := blk_frozen BK358.out 0
          have hfz21_1 := blk_frozen BK358.out 1
          have hfz21_2 := blk_frozen BK358.out 2
          have hfz21_3 := blk_frozen BK358.out 3
          go_wp2
          go_meet
          case rel => exact ⟨_, (2), (by first | rfl | (simp; done) | (simp [*]; done)), H', ⟨by first | omega | exact Nat.le_refl _⟩, ⟨by (with_reducible repeat (first | refine blk_drewN ?_ _ | refine blk_drew ?_ | refine blk_alloc ?_ _)); exact BK358.out⟩, ⟨by (with_reducible repeat (first | refine blk_drewN ?_ _ | refine blk_drew ?_ | refine blk_alloc ?_ _)); exact BK359.out⟩, ⟨by repeat (first | (with_reducible first | exact HB.out | apply below_alloc | apply pw_below_drewN | apply below_drew1 | refine below_set ?_ GE358.out | refine below_set ?_ GE359.out) | exact HB.out)⟩⟩
        · rw [if_neg c19] at H
          have c19b0 : (a0_0 == 1) = false := beq_eq_false_iff_ne.mpr c19
          have c19b1 : (a0_0 != 1) = true := bne_iff_ne.mpr c19
          (first | rw [c19b0] | rw [c19b1] | (simp only [i64_w, i32_w]; rw [c19b0]) | skip)
          by_cases c22 : a0_0 = 2
          · rw [if_pos c22] at H
            have c22b0 : (a0_0 == 2) = true := beq_iff_eq.mpr c22
            have c22b1 : (a0_0 != 2) = false := bne_eq_false_iff_eq.mpr c22
            clear c22
            have H' := Aside0.mk H
            clear H
            have hnb23 := NB358_359.out
            have hnc23 := NB359_358.out
            have hcz24_0 : w15.cell? ⟨gb358, 0, none⟩ = some (.int .i64 a0_0) := (blk_cell BK358.out 0).trans rfl
            have hcz24_1 : w15.cell? ⟨gb358, 1, none⟩ = some (.string a0_1) := (blk_cell BK358.out 1).trans rfl
            have hcz24_2 : w15.cell? ⟨gb358, 2, none⟩ = some (.string a0_2) := (blk_cell BK358.out 2).trans rfl
            have hcz24_3 : w15.cell? ⟨gb358, 3, none⟩ = some (.slice A0_3 l0_3.length c0_3) := (blk_cell BK358.out 3).trans rfl
            have hfz24_0 := blk_frozen BK358.out 0
            have hfz24_1 := blk_frozen BK358.out 1
            have hfz24_2 := blk_frozen BK358.out 2
            have hfz24_3 := blk_frozen BK358.out 3
            go_wp2
            go_meet
            case rel => exact ⟨_, (1), (by first | rfl | (simp; done) | (simp [*]; done)), H', ⟨by first | omega | exact Nat.le_refl _⟩, ⟨by (with_reducible repeat (first | refine blk_drewN ?_ _ | refine blk_drew ?_ | refine blk_alloc ?_ _)); exact BK358.out⟩, ⟨by (with_reducible repeat (first | refine blk_drewN ?_ _ | refine blk_drew ?_ | refine blk_alloc ?_ _)); exact BK359.out⟩, ⟨by repeat (first | (with_reducible first | exact HB.out | apply below_alloc | apply pw_below_drewN | apply below_drew1 | refine below_set ?_ GE358.out | refine below_set ?_ GE359.out) | exact HB.out)⟩⟩
          · rw [if_neg c22] at H
            have c22b0 : (a0_0 == 2) = false := beq_eq_false_iff_ne.mpr c22
            have c22b1 : (a0_0 != 2) = true := bne_iff_ne.mpr c22
            by_cases c25 : a0_0 = 4
            · rw [if_pos c25] at H
              have c25b0 : (a0_0 == 4) = true := beq_iff_eq.mpr c25
              have c25b1 : (a0_0 != 4) = false := bne_eq_false_iff_eq.mpr c25
              clear c25
              have H' := Aside0.mk H
              clear H
              have hnb26 := NB358_359.out
              have hnc26 := NB359_358.out
              have hcz27_0 : w15.cell? ⟨gb358, 0, none⟩ = some (.int .i64 a0_0) := (blk_cell BK358.out 0).trans rfl
              have hcz27_1 : w15.cell? ⟨gb358, 1, none⟩ = some (.string a0_1) := (blk_cell BK358.out 1).trans rfl
              have hcz27_2 : w15.cell? ⟨gb358, 2, none⟩ = some (.string a0_2) := (blk_cell BK358.out 2).trans rfl
              have hcz27_3 : w15.cell? ⟨gb358, 3, none⟩ = some (.slice A0_3 l0_3.length c0_3) := (blk_cell BK358.out 3).trans rfl
              have hfz27_0 := blk_frozen BK358.out 0
              have hfz27_1 := blk_frozen BK358.out 1
              have hfz27_2 := blk_frozen BK358.out 2
              have hfz27_3 := blk_frozen BK358.out 3
              go_wp2
              go_meet
              case rel => exact ⟨_, (5), (by first | rfl | (simp; done) | (simp [*]; done)), H', ⟨by first | omega | exact Nat.le_refl _⟩, ⟨by (with_reducible repeat (first | refine blk_drewN ?_ _ | refine blk_drew ?_ | refine blk_alloc ?_ _)); exact BK358.out⟩, ⟨by (with_reducible repeat (first | refine blk_drewN ?_ _ | refine blk_drew ?_ | refine blk_alloc ?_ _)); exact BK359.out⟩, ⟨by repeat (first | (with_reducible first | exact HB.out | apply below_alloc | apply pw_below_drewN | apply below_drew1 | refine below_set ?_ GE358.out | refine below_set ?_ GE359.out) | exact HB.out)⟩⟩
            · rw [if_neg c25] at H
              have c25b0 : (a0_0 == 4) = false := beq_eq_false_iff_ne.mpr c25
              have c25b1 : (a0_0 != 4) = true := bne_iff_ne.mpr c25
              by_cases c28 : a0_0 = 5
              · rw [if_pos c28] at H
                have c28b0 : (a0_0 == 5) = true := beq_iff_eq.mpr c28
                have c28b1 : (a0_0 != 5) = false := bne_eq_false_iff_eq.mpr c28
                clear c28
                have H' := Aside0.mk H
                clear H
                have hnb29 := NB358_359.out
                have hnc29 := NB359_358.out
                have hcz30_0 : w15.cell? ⟨gb358, 0, none⟩ = some (.int .i64 a0_0) := (blk_cell BK358.out 0).trans rfl
                have hcz30_1 : w15.cell? ⟨gb358, 1, none⟩ = some (.string a0_1) := (blk_cell BK358.out 1).trans rfl
                have hcz30_2 : w15.cell? ⟨gb358, 2, none⟩ = some (.string a0_2) := (blk_cell BK358.out 2).trans rfl
                have hcz30_3 : w15.cell? ⟨gb358, 3, none⟩ = some (.slice A0_3 l0_3.length c0_3) := (blk_cell BK358.out 3).trans rfl
                have hfz30_0 := blk_frozen BK358.out 0
                have hfz30_1 := blk_frozen BK358.out 1
                have hfz30_2 := blk_frozen BK358.out 2
                have hfz30_3 := blk_frozen BK358.out 3
                go_wp2
                go_meet
                case rel => exact ⟨_, (4), (by first | rfl | (simp; done) | (simp [*]; done)), H', ⟨by first | omega | exact Nat.le_refl _⟩, ⟨by (with_reducible repeat (first | refine blk_drewN ?_ _ | refine blk_drew ?_ | refine blk_alloc ?_ _)); exact BK358.out⟩, ⟨by (with_reducible repeat (first | refine blk_drewN ?_ _ | refine blk_drew ?_ | refine blk_alloc ?_ _)); exact BK359.out⟩, ⟨by repeat (first | (with_reducible first | exact HB.out | apply below_alloc | apply pw_below_drewN | apply below_drew1 | refine below_set ?_ GE358.out | refine below_set ?_ GE359.out) | exact HB.out)⟩⟩
              · rw [if_neg c28] at H
                have c28b0 : (a0_0 == 5) = false := beq_eq_false_iff_ne.mpr c28
                have c28b1 : (a0_0 != 5) = true := bne_iff_ne.mpr c28
                have H' := Aside0.mk H
                clear H
                have hnb31 := NB358_359.out
                have hnc31 := NB359_358.out
                have hcz32_0 : w15.cell? ⟨gb358, 0, none⟩ = some (.int .i64 a0_0) := (blk_cell BK358.out 0).trans rfl
                have hcz32_1 : w15.cell? ⟨gb358, 1, none⟩ = some (.string a0_1) := (blk_cell BK358.out 1).trans rfl
                have hcz32_2 : w15.cell? ⟨gb358, 2, none⟩ = some (.string a0_2) := (blk_cell BK358.out 2).trans rfl
                have hcz32_3 : w15.cell? ⟨gb358, 3, none⟩ = some (.slice A0_3 l0_3.length c0_3) := (blk_cell BK358.out 3).trans rfl
                have hfz32_0 := blk_frozen BK358.out 0
                have hfz32_1 := blk_frozen BK358.out 1
                have hfz32_2 := blk_frozen BK358.out 2
                have hfz32_3 := blk_frozen BK358.out 3
                go_wp2
                go_meet
                case rel => exact ⟨_, (a0_0), (by first | rfl | (simp; done) | (simp [*]; done)), H', ⟨by first | omega | exact Nat.le_refl _⟩, ⟨by (with_reducible repeat (first | refine blk_drewN ?_ _ | refine blk_drew ?_ | refine blk_alloc ?_ _)); exact BK358.out⟩, ⟨by (with_reducible repeat (first | refine blk_drewN ?_ _ | refine blk_drew ?_ | refine blk_alloc ?_ _)); exact BK359.out⟩, ⟨by repeat (first | (with_reducible first | exact HB.out | apply below_alloc | apply pw_below_drewN | apply below_drew1 | refine below_set ?_ GE358.out | refine below_set ?_ GE359.out) | exact HB.out)⟩⟩
      · replace c18 := Bool.eq_false_iff.mpr c18
        subst c18
        have H1 : (colloquyref12_Simple.j0 k false a0_0 a0_0 a0_1 a0_2 l0_3) = some (r1, r2, r3, r4) := by rw [if_neg (show ¬ (false = true) by decide)] at H; exact H
        clear H
        have H := H1
        clear H1
        have H' := Aside0.mk H
        clear H
        go_wp2
        go_meet
        case rel => exact ⟨_, (a0_0), (by first | rfl | (simp; done) | (simp [*]; done)), H', ⟨by first | omega | exact Nat.le_refl _⟩, ⟨by (with_reducible repeat (first | refine blk_drewN ?_ _ | refine blk_drew ?_ | refine blk_alloc ?_ _)); exact BK358.out⟩, ⟨by (with_reducible repeat (first | refine blk_drewN ?_ _ | refine blk_drew ?_ | refine blk_alloc ?_ _)); exact BK359.out⟩, ⟨by repeat (first | (with_reducible first | exact HB.out | apply below_alloc | apply pw_below_drewN | apply below_drew1 | refine below_set ?_ GE358.out | refine below_set ?_ GE359.out) | exact HB.out)⟩⟩
    case rest =>
      clear HC13
      try clear c1
      try clear c2
      try clear p2
      try clear c3
      try clear c3b0
      try clear c3b1
      try clear p3
      try clear q3
      try clear hx3
      try clear qi3
      try clear c4
      try clear c4b0
      try clear c4b1
      try clear c8
      try clear c16
      try clear c18
      try clear c19
      try clear c19b0
      try clear c19b1
      try clear c20
      try clear c22
      try clear c22b0
      try clear c22b1
      try clear c23
      try clear c25
      try clear c25b0
      try clear c25b1
      try clear c26
      try clear c28
      try clear c28b0
      try clear c28b1
      try clear c29
      try clear c31
      try clear hcz11_0
      try clear hcz11_1
      try clear hcz11_2
      try clear hcz11_3
      try clear hcz17_0
      try clear hcz17_1
      try clear hcz17_2
      try clear hcz17_3
      try clear hcz21_0
      try clear hcz21_1
      try clear hcz21_2
      try clear hcz21_3
      try clear hcz24_0
      try clear hcz24_1
      try clear hcz24_2
      try clear hcz24_3
      try clear hcz27_0
      try clear hcz27_1
      try clear hcz27_2
      try clear hcz27_3
      try clear hcz30_0
      try clear hcz30_1
      try clear hcz30_2
      try clear hcz30_3
      try clear hcz32_0
      try clear hcz32_1
      try clear hcz32_2
      try clear hcz32_3
      try clear hcz9_0
      try clear hcz9_1
      try clear hcz9_2
      try clear hcz9_3
      try clear hfz11_0
      try clear hfz11_1
      try clear hfz11_2
      try clear hfz11_3
      try clear hfz17_0
      try clear hfz17_1
      try clear hfz17_2
      try clear hfz17_3
      try clear hfz21_0
      try clear hfz21_1
      try clear hfz21_2
      try clear hfz21_3
      try clear hfz24_0
      try clear hfz24_1
      try clear hfz24_2
      try clear hfz24_3
      try clear hfz27_0
      try clear hfz27_1
      try clear hfz27_2
      try clear hfz27_3
      try clear hfz30_0
      try clear hfz30_1
      try clear hfz30_2
      try clear hfz30_3
      try clear hfz32_0
      try clear hfz32_1
      try clear hfz32_2
      try clear hfz32_3
      try clear hfz9_0
      try clear hfz9_1
      try clear hfz9_2
      try clear hfz9_3
      try clear hx360_0
      try clear hx360_1
      try clear hx360_2
      try clear hx360_3
      try clear p360
      try clear q360
      obtain ⟨kq, x5_12, rfl, HA, HJ12, BK358, BK359, HB⟩ := hcut
      cases kq with
      | zero => exact absurd HA.out (by simp [colloquyref12_Simple.j0])
      | succ kj12 =>
        have H := HA.out
        clear HA
        simp only [colloquyref12_Simple.j0] at H
        have H' := Aside0.mk H
        clear H
        have hnb33 := NB358_359.out
        have hnc33 := NB359_358.out
        have hcz34_0 : wc.cell? ⟨gb358, 0, none⟩ = some (.int .i64 a0_0) := (blk_cell BK358.out 0).trans rfl
        have hcz34_1 : wc.cell? ⟨gb358, 1, none⟩ = some (.string a0_1) := (blk_cell BK358.out 1).trans rfl
        have hcz34_2 : wc.cell? ⟨gb358, 2, none⟩ = some (.string a0_2) := (blk_cell BK358.out 2).trans rfl
        have hcz34_3 : wc.cell? ⟨gb358, 3, none⟩ = some (.slice A0_3 l0_3.length c0_3) := (blk_cell BK358.out 3).trans rfl
        have hfz34_0 := blk_frozen BK358.out 0
        have hfz34_1 := blk_frozen BK358.out 1
        have hfz34_2 := blk_frozen BK358.out 2
        have hfz34_3 := blk_frozen BK358.out 3
        go_wp2_with (first | ((with_reducible refine gate_dst (N := 6) rfl ?_); refine box_event ?hg (N := 6) ?hd (cs := #[.int .i64 0, .string (⟨#[]⟩ : ByteArray), .string (⟨#[]⟩ : ByteArray), .slice none 0 0]) (t := 24) ?hr ?_; (case hd => rfl); (case hg => rfl); (case hr => first | (go_simp; done) | (go_simp; rfl)); intro gb367 hg w35 hbox hb; have n0_ := Aside0.mk (blk_below (g := gb358) (o := .cells #[.int .i64 a0_0, .string a0_1, .string a0_2, .slice A0_3 l0_3.length c0_3] 24 (0, 0)) (by (with_reducible repeat (first | refine blk_drewN ?_ _ | refine blk_drew ?_ | refine blk_alloc ?_ _)); exact BK358.out) hb); have n1_ := Aside0.mk (blk_below (g := gb359) (o := .cells #[.int .i64 0, .string (⟨#[]⟩ : ByteArray), .string (⟨#[]⟩ : ByteArray), .slice none 0 0] 24 (0, 0)) (by (with_reducible repeat (first | refine blk_drewN ?_ _ | refine blk_drew ?_ | refine blk_alloc ?_ _)); exact BK359.out) hb); have n2_ := Aside0.mk (below_step (by repeat (first | (with_reducible first | exact HB.out | apply below_alloc | apply pw_below_drewN | apply below_drew1 | refine below_set ?_ GE358.out | refine below_set ?_ GE359.out) | exact HB.out)) hb); have n3_ := Aside0.mk (hbox); have n4_ := Aside0.mk ((by rw [hg]; exact (below_size (by repeat (first | (with_reducible first | exact HB.out | apply below_alloc | apply pw_below_drewN | apply below_drew1 | refine below_set ?_ GE358.out | refine below_set ?_ GE359.out) | exact HB.out))) : w.heap.size ≤ gb367)); have n5_ := Aside0.mk ((by rw [hg]; exact (below_size (by repeat (first | (with_reducible first | exact HB.out | apply below_alloc | apply pw_below_drewN | apply below_drew1 | refine below_set ?_ GE358.out | refine below_set ?_ GE359.out) | exact HB.out))) : w.heap.size ≤ gb367)); have n6_ := Aside0.mk ((by rw [hg]; exact Nat.ne_of_lt (blk_lt (g := gb358) (o := .cells #[.int .i64 a0_0, .string a0_1, .string a0_2, .slice A0_3 l0_3.length c0_3] 24 (0, 0)) (by (with_reducible repeat (first | refine blk_drewN ?_ _ | refine blk_drew ?_ | refine blk_alloc ?_ _)); exact BK358.out)) : gb358 ≠ gb367)); have n7_ := Aside0.mk ((by rw [hg]; exact Nat.ne_of_gt (blk_lt (g := gb358) (o := .cells #[.int .i64 a0_0, .string a0_1, .string a0_2, .slice A0_3 l0_3.length c0_3] 24 (0, 0)) (by (with_reducible repeat (first | refine blk_drewN ?_ _ | refine blk_drew ?_ | refine blk_alloc ?_ _)); exact BK358.out)) : gb367 ≠ gb358)); have n8_ := Aside0.mk ((by rw [hg]; exact Nat.ne_of_lt (blk_lt (g := gb359) (o := .cells #[.int .i64 0, .string (⟨#[]⟩ : ByteArray), .string (⟨#[]⟩ : ByteArray), .slice none 0 0] 24 (0, 0)) (by (with_reducible repeat (first | refine blk_drewN ?_ _ | refine blk_drew ?_ | refine blk_alloc ?_ _)); exact BK359.out)) : gb359 ≠ gb367)); have n9_ := Aside0.mk ((by rw [hg]; exact Nat.ne_of_gt (blk_lt (g := gb359) (o := .cells #[.int .i64 0, .string (⟨#[]⟩ : ByteArray), .string (⟨#[]⟩ : ByteArray), .slice none 0 0] 24 (0, 0)) (by (with_reducible repeat (first | refine blk_drewN ?_ _ | refine blk_drew ?_ | refine blk_alloc ?_ _)); exact BK359.out)) : gb367 ≠ gb359)); clear BK358; clear BK359; clear HB; have BK358 := n0_; have BK359 := n1_; have HB := n2_; have BK367 := n3_; have GW367 := n4_; have GE367 := n5_; have NB358_367 := n6_; have NB367_358 := n7_; have NB359_367 := n8_; have NB367_359 := n9_; clear n0_ n1_ n2_ n3_ n4_ n5_ n6_ n7_ n8_ n9_; clear hb hbox hg; have hnb36 := NB367_358.out; have hnc36 := NB358_367.out; have hnb37 := NB367_359.out; have hnc37 := NB359_367.out; have hcz38_0 : w35.cell? ⟨gb367, 0, none⟩ = some (.int .i64 0) := (blk_cell BK367.out 0).trans rfl; have hcz38_1 : w35.cell? ⟨gb367, 1, none⟩ = some (.string (⟨#[]⟩ : ByteArray)) := (blk_cell BK367.out 1).trans rfl; have hcz38_2 : w35.cell? ⟨gb367, 2, none⟩ = some (.string (⟨#[]⟩ : ByteArray)) := (blk_cell BK367.out 2).trans rfl; have hcz38_3 : w35.cell? ⟨gb367, 3, none⟩ = some (.slice none 0 0) := (blk_cell BK367.out 3).trans rfl; have hfz38_0 := blk_frozen BK367.out 0; have hfz38_1 := blk_frozen BK367.out 1; have hfz38_2 := blk_frozen BK367.out 2; have hfz38_3 := blk_frozen BK367.out 3))
        go_loopg [7] kj12 (fun kq v7 w' => ∃ (x7_2 : Int) (x368003_2 : List (S24)) (u368003 : Value), v7 = .int .i64 x7_2 ∧ Aside0 (colloquyref12_Simple.l0 kq a1 x5_12 x7_2 a0_0 a0_1 a0_2 l0_3 x5_12 a0_1 a0_2 x368003_2 = some (r1, r2, r3, r4)) ∧ Aside0 (kq ≤ kj12) ∧ Aside0 (Kd.N k24 24 w' w.heap.size (fun k_ => (w.heap.size ≤ k_) ∧ k_ ≠ gb358 ∧ k_ ≠ gb359 ∧ k_ ≠ gb367) u368003 x368003_2) ∧ Aside0 (w'.heap[gb358]? = some (.cells #[.int .i64 a0_0, .string a0_1, .string a0_2, (.slice A0_3 l0_3.length c0_3)] 24 (0, 0))) ∧ Aside0 (w'.heap[gb359]? = some (.cells #[.int .i64 0, .string (⟨#[]⟩ : ByteArray), .string (⟨#[]⟩ : ByteArray), (.slice none 0 0)] 24 (0, 0))) ∧ Aside0 (w'.heap[gb367]? = some (.cells #[.int .i64 x5_12, .string a0_1, .string a0_2, u368003] 24 (0, 0))) ∧ Aside0 (Below w.heap.size w w'))
        case atStart => exact ⟨(0), (([] : List (S24))), (.slice none 0 0), (by first | rfl | (simp; done) | (simp [*]; done)), H', ⟨Nat.le_refl _⟩, ⟨by first | exact Kd.R_nil _ _ _ _ _ | exact Kd.N_nil _ _ _ _ _ | exact Kd.V_nil _ _ _ _ _ | exact Kd.Q_nil _ _ _ _ _ | exact Kd.S_nil _ _ _ _ _⟩, ⟨by (with_reducible repeat (first | refine blk_drewN ?_ _ | refine blk_drew ?_ | refine blk_alloc ?_ _)); refine blk_far ?_ NB358_367.out _; (with_reducible repeat (first | refine blk_drewN ?_ _ | refine blk_drew ?_ | refine blk_alloc ?_ _)); refine blk_far ?_ NB358_367.out _; (with_reducible repeat (first | refine blk_drewN ?_ _ | refine blk_drew ?_ | refine blk_alloc ?_ _)); refine blk_far ?_ NB358_367.out _; (with_reducible repeat (first | refine blk_drewN ?_ _ | refine blk_drew ?_ | refine blk_alloc ?_ _)); refine blk_far ?_ NB358_367.out _; (with_reducible repeat (first | refine blk_drewN ?_ _ | refine blk_drew ?_ | refine blk_alloc ?_ _)); exact BK358.out⟩, ⟨by (with_reducible repeat (first | refine blk_drewN ?_ _ | refine blk_drew ?_ | refine blk_alloc ?_ _)); refine blk_far ?_ NB359_367.out _; (with_reducible repeat (first | refine blk_drewN ?_ _ | refine blk_drew ?_ | refine blk_alloc ?_ _)); refine blk_far ?_ NB359_367.out _; (with_reducible repeat (first | refine blk_drewN ?_ _ | refine blk_drew ?_ | refine blk_alloc ?_ _)); refine blk_far ?_ NB359_367.out _; (with_reducible repeat (first | refine blk_drewN ?_ _ | refine blk_drew ?_ | refine blk_alloc ?_ _)); refine blk_far ?_ NB359_367.out _; (with_reducible repeat (first | refine blk_drewN ?_ _ | refine blk_drew ?_ | refine blk_alloc ?_ _)); exact BK359.out⟩, ⟨by (with_reducible repeat (first | refine blk_drewN ?_ _ | refine blk_drew ?_ | refine blk_alloc ?_ _)); refine blk_put (cs := #[.int .i64 x5_12, .string a0_1, .string a0_2, .slice none 0 0]) ?_ 3 _ rfl; (with_reducible repeat (first | refine blk_drewN ?_ _ | refine blk_drew ?_ | refine blk_alloc ?_ _)); refine blk_put (cs := #[.int .i64 x5_12, .string a0_1, .string (⟨#[]⟩ : ByteArray), .slice none 0 0]) ?_ 2 _ rfl; (with_reducible repeat (first | refine blk_drewN ?_ _ | refine blk_drew ?_ | refine blk_alloc ?_ _)); refine blk_put (cs := #[.int .i64 x5_12, .string (⟨#[]⟩ : ByteArray), .string (⟨#[]⟩ : ByteArray), .slice none 0 0]) ?_ 1 _ rfl; (with_reducible repeat (first | refine blk_drewN ?_ _ | refine blk_drew ?_ | refine blk_alloc ?_ _)); refine blk_put (cs := #[.int .i64 0, .string (⟨#[]⟩ : ByteArray), .string (⟨#[]⟩ : ByteArray), .slice none 0 0]) ?_ 0 _ rfl; (with_reducible repeat (first | refine blk_drewN ?_ _ | refine blk_drew ?_ | refine blk_alloc ?_ _)); exact BK367.out⟩, ⟨by repeat (first | (with_reducible first | exact HB.out | apply below_alloc | apply pw_below_drewN | apply below_drew1 | refine below_set ?_ GE358.out | refine below_set ?_ GE359.out | refine below_set ?_ GE367.out) | exact HB.out)⟩⟩
        case round =>
          clear H'
          try clear c1
          try clear c2
          try clear p2
          try clear c3
          try clear c3b0
          try clear c3b1
          try clear p3
          try clear q3
          try clear hx3
          try clear qi3
          try clear c4
          try clear c4b0
          try clear c4b1
          try clear c8
          try clear c16
          try clear c18
          try clear c19
          try clear c19b0
          try clear c19b1
          try clear c20
          try clear c22
          try clear c22b0
          try clear c22b1
          try clear c23
          try clear c25
          try clear c25b0
          try clear c25b1
          try clear c26
          try clear c28
          try clear c28b0
          try clear c28b1
          try clear c29
          try clear c31
          try clear c33
          try clear c36
          try clear p36
          try clear q36
          try clear hx36
          try clear qi36
          try clear c37
          try clear hcz11_0
          try clear hcz11_1
          try clear hcz11_2
          try clear hcz11_3
          try clear hcz17_0
          try clear hcz17_1
          try clear hcz17_2
          try clear hcz17_3
          try clear hcz21_0
          try clear hcz21_1
          try clear hcz21_2
          try clear hcz21_3
          try clear hcz24_0
          try clear hcz24_1
          try clear hcz24_2
          try clear hcz24_3
          try clear hcz27_0
          try clear hcz27_1
          try clear hcz27_2
          try clear hcz27_3
          try clear hcz30_0
          try clear hcz30_1
          try clear hcz30_2
          try clear hcz30_3
          try clear hcz32_0
          try clear hcz32_1
          try clear hcz32_2
          try clear hcz32_3
          try clear hcz34_0
          try clear hcz34_1
          try clear hcz34_2
          try clear hcz34_3
          try clear hcz38_0
          try clear hcz38_1
          try clear hcz38_2
          try clear hcz38_3
          try clear hcz9_0
          try clear hcz9_1
          try clear hcz9_2
          try clear hcz9_3
          try clear hfz11_0
          try clear hfz11_1
          try clear hfz11_2
          try clear hfz11_3
          try clear hfz17_0
          try clear hfz17_1
          try clear hfz17_2
          try clear hfz17_3
          try clear hfz21_0
          try clear hfz21_1
          try clear hfz21_2
          try clear hfz21_3
          try clear hfz24_0
          try clear hfz24_1
          try clear hfz24_2
          try clear hfz24_3
          try clear hfz27_0
          try clear hfz27_1
          try clear hfz27_2
          try clear hfz27_3
          try clear hfz30_0
          try clear hfz30_1
          try clear hfz30_2
          try clear hfz30_3
          try clear hfz32_0
          try clear hfz32_1
          try clear hfz32_2
          try clear hfz32_3
          try clear hfz34_0
          try clear hfz34_1
          try clear hfz34_2
          try clear hfz34_3
          try clear hfz38_0
          try clear hfz38_1
          try clear hfz38_2
          try clear hfz38_3
          try clear hfz9_0
          try clear hfz9_1
          try clear hfz9_2
          try clear hfz9_3
          try clear hx360_0
          try clear hx360_1
          try clear hx360_2
          try clear hx360_3
          try clear p2
          try clear p3
          try clear p360
          try clear q3
          try clear q360
          obtain ⟨x7_2, x368003_2, u368003, rfl, HA, HK2, HO_368003, BK358, BK359, BK367, HB⟩ := hrel
          cases gk with
          | zero => exact absurd HA.out (by simp [colloquyref12_Simple.l0])
          | succ k2 =>
            have H := HA.out
            clear HA
            simp only [colloquyref12_Simple.l0] at H
            by_cases c39 : x7_2 < (l0_3.length : Int)
            · rw [if_pos c39] at H
              have c39b0 : decide (x7_2 < (l0_3.length : Int)) = true := decide_eq_true c39
              clear c39
              by_cases c40 : 0 ≤ x7_2
              · rw [if_pos c40] at H
                have c40b0 : decide (0 ≤ x7_2) = true := decide_eq_true c40
                clear c40
                replace H := Option.bind_eq_some_iff.mp H
                obtain ⟨⟨t369, t370, t371, t372⟩, A410, H⟩ := H
                replace H : (if t369 = x5_12 then (colloquyref12_Simple.l1 k2 a1 x5_12 x7_2 0 a0_0 a0_1 a0_2 l0_3 x5_12 a0_1 a0_2 x368003_2 t369 t370 t371 t372) else (if x368003_2.length < 2199023255552 then (colloquyref12_Simple.l0 k2 a1 x5_12 (wrap64 (x7_2 + 1)) a0_0 a0_1 a0_2 l0_3 x5_12 a0_1 a0_2 (x368003_2 ++ [(⟨t369, t370, t371, t372⟩ : S24)])) else (none))) = some (r1, r2, r3, r4) := H
                have A41 := Aside0.mk A410
                clear A410
                by_cases c42 : t369 = x5_12
                · rw [if_pos c42] at H
                  have c42b0 : (t369 == x5_12) = true := beq_iff_eq.mpr c42
                  have c42b1 : (t369 != x5_12) = false := bne_eq_false_iff_eq.mpr c42
                  clear c42
                  have H' := Aside0.mk H
                  clear H
                  have hnb43 := NB358_359.out
                  have hnc43 := NB359_358.out
                  have hnb44 := NB358_367.out
                  have hnc44 := NB367_358.out
                  have hcz45_0 : wr.cell? ⟨gb358, 0, none⟩ = some (.int .i64 a0_0) := (blk_cell BK358.out 0).trans rfl
                  have hcz45_1 : wr.cell? ⟨gb358, 1, none⟩ = some (.string a0_1) := (blk_cell BK358.out 1).trans rfl
                  have hcz45_2 : wr.cell? ⟨gb358, 2, none⟩ = some (.string a0_2) := (blk_cell BK358.out 2).trans rfl
                  have hcz45_3 : wr.cell? ⟨gb358, 3, none⟩ = some (.slice A0_3 l0_3.length c0_3) := (blk_cell BK358.out 3).trans rfl
                  have hfz45_0 := blk_frozen BK358.out 0
                  have hfz45_1 := blk_frozen BK358.out 1
                  have hfz45_2 := blk_frozen BK358.out 2
                  have hfz45_3 := blk_frozen BK358.out 3
                  have p368 : 0 ≤ (x7_2 : Int) := of_decide_eq_true (by first | (with_reducible assumption) | assumption)
                  have q368 : x7_2 < (l0_3.length : Int) := of_decide_eq_true (by first | (with_reducible assumption) | assumption)
                  obtain ⟨ad368, A368_3, c368_3, e368, hx368_0, hx368_1, hx368_2, hx368_3, hl368_3, hi368_3⟩ := at_T24 HR0_3.out x7_2 p368 q368
                  cases e368
                  replace hx368_0 := (HB.out.cell (World.block_lt_of_cell? w _ hx368_0)).trans hx368_0
                  replace hx368_1 := (HB.out.cell (World.block_lt_of_cell? w _ hx368_1)).trans hx368_1
                  replace hx368_2 := (HB.out.cell (World.block_lt_of_cell? w _ hx368_2)).trans hx368_2
                  replace hx368_3 := (HB.out.cell (World.block_lt_of_cell? w _ hx368_3)).trans hx368_3
                  have HR368_3 := Aside0.mk hi368_3
                  have HC368_3 := Aside0.mk hl368_3
                  clear hi368_3 hl368_3
                  replace p368 := eq_true p368
                  replace q368 := eq_true q368
                  go_wp2_with (first | ((with_reducible refine gate_callee (f := 19) rfl ?_); refine goesL_ (some 52) rfl rfl Try.func19 (by kernel_rfl) rfl #[.agg #[.int .i64 ((rd_T24 l0_3 x7_2).f0), .string ((rd_T24 l0_3 x7_2).f1), .string ((rd_T24 l0_3 x7_2).f2), .slice A368_3 ((rd_T24 l0_3 x7_2).f3).length c368_3], .bool a1] rfl (by (try simp only [List.map_toArray, List.map_cons, List.map_nil]); first | done | rfl | (simp only [List.length_drop, List.length_take]; rfl)) ?_; (with_reducible refine (ih k2 (by have := HJ12.out; have := HK2.out; omega) ((rd_T24 l0_3 x7_2).f0) ((rd_T24 l0_3 x7_2).f1) ((rd_T24 l0_3 x7_2).f2) _ _ ((rd_T24 l0_3 x7_2).f3) a1 t369 t370 t371 t372 _ ?side1 ?side2 A41.out).mono ?_); (case side1 => repeat (first | exact (Kd.C_below HR368_3.out HB.out) | (with_reducible refine Kd.C_alloc ?_ _) | (with_reducible refine Kd.C_drewN ?_ _) | (with_reducible refine Kd.C_drew ?_))); (case side2 => exact HC368_3.out); rintro e w46 ⟨v373, rfl, ho0, hb⟩; refine ⟨_, rfl, ?_⟩; have n0_ := Aside0.mk (Kd.N_elder' (by (with_reducible repeat (first | apply Kd.N_alloc | apply Kd.N_drewN | apply Kd.N_drew)); exact HO_368003.out) (Kd.N_base ho0) hb); have n1_ := Aside0.mk (Kd.N_lower (Kd.N_mono (ok' := fun k_ => (w.heap.size ≤ k_) ∧ some k_ ≠ (u368003 : Value).ownBlock ∧ k_ ≠ gb358 ∧ k_ ≠ gb359 ∧ k_ ≠ gb367) ho0 (fun k_ hk_ => ⟨(Nat.le_trans (below_size (by repeat (first | (with_reducible first | exact HB.out | apply below_alloc | apply pw_below_drewN | apply below_drew1 | refine below_set ?_ GE358.out | refine below_set ?_ GE359.out | refine below_set ?_ GE367.out) | exact HB.out))) hk_), (Kd.fresh' (Kd.N_lt (by (with_reducible repeat (first | apply Kd.N_alloc | apply Kd.N_drewN | apply Kd.N_drew)); exact HO_368003.out)) k_ hk_), (Kd.freshB (g := gb358) (o := .cells #[.int .i64 a0_0, .string a0_1, .string a0_2, .slice (some ad368) l0_3.length c0_3] 24 (0, 0)) (by (with_reducible repeat (first | refine blk_drewN ?_ _ | refine blk_drew ?_ | refine blk_alloc ?_ _)); exact BK358.out) k_ hk_), (Kd.freshB (g := gb359) (o := .cells #[.int .i64 0, .string (⟨#[]⟩ : ByteArray), .string (⟨#[]⟩ : ByteArray), .slice none 0 0] 24 (0, 0)) (by (with_reducible repeat (first | refine blk_drewN ?_ _ | refine blk_drew ?_ | refine blk_alloc ?_ _)); exact BK359.out) k_ hk_), (Kd.freshB (g := gb367) (o := .cells #[.int .i64 x5_12, .string a0_1, .string a0_2, u368003] 24 (0, 0)) (by (with_reducible repeat (first | refine blk_drewN ?_ _ | refine blk_drew ?_ | refine blk_alloc ?_ _)); exact BK367.out) k_ hk_)⟩)) (below_size (by repeat (first | (with_reducible first | exact HB.out | apply below_alloc | apply pw_below_drewN | apply below_drew1 | refine below_set ?_ GE358.out | refine below_set ?_ GE359.out | refine below_set ?_ GE367.out) | exact HB.out)))); have n2_ := Aside0.mk (blk_below (g := gb358) (o := .cells #[.int .i64 a0_0, .string a0_1, .string a0_2, .slice (some ad368) l0_3.length c0_3] 24 (0, 0)) (by (with_reducible repeat (first | refine blk_drewN ?_ _ | refine blk_drew ?_ | refine blk_alloc ?_ _)); exact BK358.out) hb); have n3_ := Aside0.mk (blk_below (g := gb359) (o := .cells #[.int .i64 0, .string (⟨#[]⟩ : ByteArray), .string (⟨#[]⟩ : ByteArray), .slice none 0 0] 24 (0, 0)) (by (with_reducible repeat (first | refine blk_drewN ?_ _ | refine blk_drew ?_ | refine blk_alloc ?_ _)); exact BK359.out) hb); have n4_ := Aside0.mk (blk_below (g := gb367) (o := .cells #[.int .i64 x5_12, .string a0_1, .string a0_2, u368003] 24 (0, 0)) (by (with_reducible repeat (first | refine blk_drewN ?_ _ | refine blk_drew ?_ | refine blk_alloc ?_ _)); exact BK367.out) hb); have n5_ := Aside0.mk (below_step (by repeat (first | (with_reducible first | exact HB.out | apply below_alloc | apply pw_below_drewN | apply below_drew1 | refine below_set ?_ GE358.out | refine below_set ?_ GE359.out | refine below_set ?_ GE367.out) | exact HB.out)) hb); clear HO_368003; clear BK358; clear BK359; clear BK367; clear HB; have HO_368003 := n0_; have HO374 := n1_; have BK358 := n2_; have BK359 := n3_; have BK367 := n4_; have HB := n5_; clear n0_ n1_ n2_ n3_ n4_ n5_; (try clear hb); (try clear hb2); (try clear hk); (try clear hi); (try clear ho0)) | ((with_reducible refine gate_dst (N := 8) rfl ?_); refine box_event ?hg (N := 8) ?hd (cs := #[.int .i64 0, .string (⟨#[]⟩ : ByteArray), .string (⟨#[]⟩ : ByteArray), .slice none 0 0]) (t := 24) ?hr ?_; (case hd => rfl); (case hg => rfl); (case hr => first | (go_simp; done) | (go_simp; rfl)); intro gb375 hg w47 hbox hb; have n0_ := Aside0.mk (Kd.N_below (Kd.N_elderB (by (with_reducible repeat (first | apply Kd.N_alloc | apply Kd.N_drewN | apply Kd.N_drew)); exact HO_368003.out) gb375 (Nat.le_of_eq hg.symm)) hb); have n1_ := Aside0.mk (Kd.N_below (Kd.N_elderB (by (with_reducible repeat (first | apply Kd.N_alloc | apply Kd.N_drewN | apply Kd.N_drew)); exact HO374.out) gb375 (Nat.le_of_eq hg.symm)) hb); have n2_ := Aside0.mk (blk_below (g := gb358) (o := .cells #[.int .i64 a0_0, .string a0_1, .string a0_2, .slice (some ad368) l0_3.length c0_3] 24 (0, 0)) (by (with_reducible repeat (first | refine blk_drewN ?_ _ | refine blk_drew ?_ | refine blk_alloc ?_ _)); exact BK358.out) hb); have n3_ := Aside0.mk (blk_below (g := gb359) (o := .cells #[.int .i64 0, .string (⟨#[]⟩ : ByteArray), .string (⟨#[]⟩ : ByteArray), .slice none 0 0] 24 (0, 0)) (by (with_reducible repeat (first | refine blk_drewN ?_ _ | refine blk_drew ?_ | refine blk_alloc ?_ _)); exact BK359.out) hb); have n4_ := Aside0.mk (blk_below (g := gb367) (o := .cells #[.int .i64 x5_12, .string a0_1, .string a0_2, u368003] 24 (0, 0)) (by (with_reducible repeat (first | refine blk_drewN ?_ _ | refine blk_drew ?_ | refine blk_alloc ?_ _)); exact BK367.out) hb); have n5_ := Aside0.mk (below_step (by repeat (first | (with_reducible first | exact HB.out | apply below_alloc | apply pw_below_drewN | apply below_drew1 | refine below_set ?_ GE358.out | refine below_set ?_ GE359.out | refine below_set ?_ GE367.out) | exact HB.out)) hb); have n6_ := Aside0.mk (hbox); have n7_ := Aside0.mk ((by rw [hg]; exact (below_size (by repeat (first | (with_reducible first | exact HB.out | apply below_alloc | apply pw_below_drewN | apply below_drew1 | refine below_set ?_ GE358.out | refine below_set ?_ GE359.out | refine below_set ?_ GE367.out) | exact HB.out))) : w.heap.size ≤ gb375)); have n8_ := Aside0.mk ((by rw [hg]; exact (below_size (by repeat (first | (with_reducible first | exact HB.out | apply below_alloc | apply pw_below_drewN | apply below_drew1 | refine below_set ?_ GE358.out | refine below_set ?_ GE359.out | refine below_set ?_ GE367.out) | exact HB.out))) : w.heap.size ≤ gb375)); have n9_ := Aside0.mk ((by rw [hg]; exact Nat.ne_of_lt (blk_lt (g := gb358) (o := .cells #[.int .i64 a0_0, .string a0_1, .string a0_2, .slice (some ad368) l0_3.length c0_3] 24 (0, 0)) (by (with_reducible repeat (first | refine blk_drewN ?_ _ | refine blk_drew ?_ | refine blk_alloc ?_ _)); exact BK358.out)) : gb358 ≠ gb375)); have n10_ := Aside0.mk ((by rw [hg]; exact Nat.ne_of_gt (blk_lt (g := gb358) (o := .cells #[.int .i64 a0_0, .string a0_1, .string a0_2, .slice (some ad368) l0_3.length c0_3] 24 (0, 0)) (by (with_reducible repeat (first | refine blk_drewN ?_ _ | refine blk_drew ?_ | refine blk_alloc ?_ _)); exact BK358.out)) : gb375 ≠ gb358)); have n11_ := Aside0.mk ((by rw [hg]; exact Nat.ne_of_lt (blk_lt (g := gb359) (o := .cells #[.int .i64 0, .string (⟨#[]⟩ : ByteArray), .string (⟨#[]⟩ : ByteArray), .slice none 0 0] 24 (0, 0)) (by (with_reducible repeat (first | refine blk_drewN ?_ _ | refine blk_drew ?_ | refine blk_alloc ?_ _)); exact BK359.out)) : gb359 ≠ gb375)); have n12_ := Aside0.mk ((by rw [hg]; exact Nat.ne_of_gt (blk_lt (g := gb359) (o := .cells #[.int .i64 0, .string (⟨#[]⟩ : ByteArray), .string (⟨#[]⟩ : ByteArray), .slice none 0 0] 24 (0, 0)) (by (with_reducible repeat (first | refine blk_drewN ?_ _ | refine blk_drew ?_ | refine blk_alloc ?_ _)); exact BK359.out)) : gb375 ≠ gb359)); have n13_ := Aside0.mk ((by rw [hg]; exact Nat.ne_of_lt (blk_lt (g := gb367) (o := .cells #[.int .i64 x5_12, .string a0_1, .string a0_2, u368003] 24 (0, 0)) (by (with_reducible repeat (first | refine blk_drewN ?_ _ | refine blk_drew ?_ | refine blk_alloc ?_ _)); exact BK367.out)) : gb367 ≠ gb375)); have n14_ := Aside0.mk ((by rw [hg]; exact Nat.ne_of_gt (blk_lt (g := gb367) (o := .cells #[.int .i64 x5_12, .string a0_1, .string a0_2, u368003] 24 (0, 0)) (by (with_reducible repeat (first | refine blk_drewN ?_ _ | refine blk_drew ?_ | refine blk_alloc ?_ _)); exact BK367.out)) : gb375 ≠ gb367)); clear HO_368003; clear HO374; clear BK358; clear BK359; clear BK367; clear HB; have HO_368003 := n0_; have HO374 := n1_; have BK358 := n2_; have BK359 := n3_; have BK367 := n4_; have HB := n5_; have BK375 := n6_; have GW375 := n7_; have GE375 := n8_; have NB358_375 := n9_; have NB375_358 := n10_; have NB359_375 := n11_; have NB375_359 := n12_; have NB367_375 := n13_; have NB375_367 := n14_; clear n0_ n1_ n2_ n3_ n4_ n5_ n6_ n7_ n8_ n9_ n10_ n11_ n12_ n13_ n14_; clear hb hbox hg; have hnb48 := NB375_358.out; have hnc48 := NB358_375.out; have hnb49 := NB375_359.out; have hnc49 := NB359_375.out; have hnb50 := NB375_367.out; have hnc50 := NB367_375.out; have hcz51_0 : w47.cell? ⟨gb375, 0, none⟩ = some (.int .i64 0) := (blk_cell BK375.out 0).trans rfl; have hcz51_1 : w47.cell? ⟨gb375, 1, none⟩ = some (.string (⟨#[]⟩ : ByteArray)) := (blk_cell BK375.out 1).trans rfl; have hcz51_2 : w47.cell? ⟨gb375, 2, none⟩ = some (.string (⟨#[]⟩ : ByteArray)) := (blk_cell BK375.out 2).trans rfl; have hcz51_3 : w47.cell? ⟨gb375, 3, none⟩ = some (.slice none 0 0) := (blk_cell BK375.out 3).trans rfl; have hfz51_0 := blk_frozen BK375.out 0; have hfz51_1 := blk_frozen BK375.out 1; have hfz51_2 := blk_frozen BK375.out 2; have hfz51_3 := blk_frozen BK375.out 3; obtain ⟨Ao52, co52, eo52⟩ := Kd.N_slice HO374.out; subst eo52))
                  go_loopg [9] k2 (fun kq v9 w' => ∃ (x9_3 : Int) (x368003_3 : List (S24)) (u368003 : Value), v9 = .int .i64 x9_3 ∧ Aside0 (colloquyref12_Simple.l1 kq a1 x5_12 x7_2 x9_3 a0_0 a0_1 a0_2 l0_3 x5_12 a0_1 a0_2 x368003_3 t369 t370 t371 t372 = some (r1, r2, r3, r4)) ∧ Aside0 (kq ≤ k2) ∧ Aside0 (Kd.N k24 24 w' w.heap.size (fun k_ => (w.heap.size ≤ k_) ∧ some k_ ≠ ((.slice Ao52 t372.length co52) : Value).ownBlock ∧ k_ ≠ gb358 ∧ k_ ≠ gb359 ∧ k_ ≠ gb367 ∧ k_ ≠ gb375) u368003 x368003_3) ∧ Aside0 (Kd.N k24 24 w' w.heap.size (fun k_ => (w.heap.size ≤ k_) ∧ some k_ ≠ (u368003 : Value).ownBlock ∧ k_ ≠ gb358 ∧ k_ ≠ gb359 ∧ k_ ≠ gb367 ∧ k_ ≠ gb375) (.slice Ao52 t372.length co52) t372) ∧ Aside0 (w'.heap[gb358]? = some (.cells #[.int .i64 a0_0, .string a0_1, .string a0_2, (.slice (some ad368) l0_3.length c0_3)] 24 (0, 0))) ∧ Aside0 (w'.heap[gb359]? = some (.cells #[.int .i64 0, .string (⟨#[]⟩ : ByteArray), .string (⟨#[]⟩ : ByteArray), (.slice none 0 0)] 24 (0, 0))) ∧ Aside0 (w'.heap[gb367]? = some (.cells #[.int .i64 x5_12, .string a0_1, .string a0_2, u368003] 24 (0, 0))) ∧ Aside0 (w'.heap[gb375]? = some (.cells #[.int .i64 t369, .string t370, .string t371, (.slice Ao52 t372.length co52)] 24 (0, 0))) ∧ Aside0 (Below w.heap.size w w'))
                  case atStart => exact ⟨(0), (x368003_2), (u368003), (by first | rfl | (simp; done) | (simp [*]; done)), H', ⟨Nat.le_refl _⟩, ⟨by (with_reducible repeat (first | apply Kd.N_alloc | apply Kd.N_drewN | apply Kd.N_drew)); exact Kd.N_mono (Kd.N_far (p := ⟨gb375, 3, none⟩) (Kd.N_far (p := ⟨gb375, 2, none⟩) (Kd.N_far (p := ⟨gb375, 1, none⟩) (Kd.N_far (p := ⟨gb375, 0, none⟩) (Kd.N_mono HO_368003.out (fun k_ hk => (⟨hk, hk.2⟩ : _ ∧ k_ ≠ gb375))) (fun _ hk => hk.2) (.int .i64 t369)) (fun _ hk => hk.2) (.string t370)) (fun _ hk => hk.2) (.string t371)) (fun _ hk => hk.2) (.slice Ao52 t372.length co52)) (fun _ hk => ⟨hk.1.1.1.1, ⟨hk.1.1.2, ⟨hk.1.1.1.2.1, ⟨hk.1.1.1.2.2.1, ⟨hk.1.1.1.2.2.2, hk.1.2⟩⟩⟩⟩⟩)⟩, ⟨by (with_reducible repeat (first | apply Kd.N_alloc | apply Kd.N_drewN | apply Kd.N_drew)); exact Kd.N_mono (Kd.N_far (p := ⟨gb375, 3, none⟩) (Kd.N_far (p := ⟨gb375, 2, none⟩) (Kd.N_far (p := ⟨gb375, 1, none⟩) (Kd.N_far (p := ⟨gb375, 0, none⟩) (Kd.N_mono HO374.out (fun k_ hk => (⟨hk, hk.2⟩ : _ ∧ k_ ≠ gb375))) (fun _ hk => hk.2) (.int .i64 t369)) (fun _ hk => hk.2) (.string t370)) (fun _ hk => hk.2) (.string t371)) (fun _ hk => hk.2) (.slice Ao52 t372.length co52)) (fun _ hk => ⟨hk.1.1.1, ⟨hk.1.1.2.1, ⟨hk.1.1.2.2.1, ⟨hk.1.1.2.2.2.1, ⟨hk.1.1.2.2.2.2, hk.1.2⟩⟩⟩⟩⟩)⟩, ⟨by (with_reducible repeat (first | refine blk_drewN ?_ _ | refine blk_drew ?_ | refine blk_alloc ?_ _)); refine blk_far ?_ NB358_375.out _; (with_reducible repeat (first | refine blk_drewN ?_ _ | refine blk_drew ?_ | refine blk_alloc ?_ _)); refine blk_far ?_ NB358_375.out _; (with_reducible repeat (first | refine blk_drewN ?_ _ | refine blk_drew ?_ | refine blk_alloc ?_ _)); refine blk_far ?_ NB358_375.out _; (with_reducible repeat (first | refine blk_drewN ?_ _ | refine blk_drew ?_ | refine blk_alloc ?_ _)); refine blk_far ?_ NB358_375.out _; (with_reducible repeat (first | refine blk_drewN ?_ _ | refine blk_drew ?_ | refine blk_alloc ?_ _)); exact BK358.out⟩, ⟨by (with_reducible repeat (first | refine blk_drewN ?_ _ | refine blk_drew ?_ | refine blk_alloc ?_ _)); refine blk_far ?_ NB359_375.out _; (with_reducible repeat (first | refine blk_drewN ?_ _ | refine blk_drew ?_ | refine blk_alloc ?_ _)); refine blk_far ?_ NB359_375.out _; (with_reducible repeat (first | refine blk_drewN ?_ _ | refine blk_drew ?_ | refine blk_alloc ?_ _)); refine blk_far ?_ NB359_375.out _; (with_reducible repeat (first | refine blk_drewN ?_ _ | refine blk_drew ?_ | refine blk_alloc ?_ _)); refine blk_far ?_ NB359_375.out _; (with_reducible repeat (first | refine blk_drewN ?_ _ | refine blk_drew ?_ | refine blk_alloc ?_ _)); exact BK359.out⟩, ⟨by (with_reducible repeat (first | refine blk_drewN ?_ _ | refine blk_drew ?_ | refine blk_alloc ?_ _)); refine blk_far ?_ NB367_375.out _; (with_reducible repeat (first | refine blk_drewN ?_ _ | refine blk_drew ?_ | refine blk_alloc ?_ _)); refine blk_far ?_ NB367_375.out _; (with_reducible repeat (first | refine blk_drewN ?_ _ | refine blk_drew ?_ | refine blk_alloc ?_ _)); refine blk_far ?_ NB367_375.out _; (with_reducible repeat (first | refine blk_drewN ?_ _ | refine blk_drew ?_ | refine blk_alloc ?_ _)); refine blk_far ?_ NB367_375.out _; (with_reducible repeat (first | refine blk_drewN ?_ _ | refine blk_drew ?_ | refine blk_alloc ?_ _)); exact BK367.out⟩, ⟨by (with_reducible repeat (first | refine blk_drewN ?_ _ | refine blk_drew ?_ | refine blk_alloc ?_ _)); refine blk_put (cs := #[.int .i64 t369, .string t370, .string t371, .slice none 0 0]) ?_ 3 _ rfl; (with_reducible repeat (first | refine blk_drewN ?_ _ | refine blk_drew ?_ | refine blk_alloc ?_ _)); refine blk_put (cs := #[.int .i64 t369, .string t370, .string (⟨#[]⟩ : ByteArray), .slice none 0 0]) ?_ 2 _ rfl; (with_reducible repeat (first | refine blk_drewN ?_ _ | refine blk_drew ?_ | refine blk_alloc ?_ _)); refine blk_put (cs := #[.int .i64 t369, .string (⟨#[]⟩ : ByteArray), .string (⟨#[]⟩ : ByteArray), .slice none 0 0]) ?_ 1 _ rfl; (with_reducible repeat (first | refine blk_drewN ?_ _ | refine blk_drew ?_ | refine blk_alloc ?_ _)); refine blk_put (cs := #[.int .i64 0, .string (⟨#[]⟩ : ByteArray), .string (⟨#[]⟩ : ByteArray), .slice none 0 0]) ?_ 0 _ rfl; (with_reducible repeat (first | refine blk_drewN ?_ _ | refine blk_drew ?_ | refine blk_alloc ?_ _)); exact BK375.out⟩, ⟨by repeat (first | (with_reducible first | exact HB.out | apply below_alloc | apply pw_below_drewN | apply below_drew1 | refine below_set ?_ GE358.out | refine below_set ?_ GE359.out | refine below_set ?_ GE367.out | refine below_set ?_ GE375.out) | exact HB.out)⟩⟩
                  case round =>
                    clear H'
                    try clear c1
                    try clear c2
                    try clear p2
                    try clear c3
                    try clear c3b0
                    try clear c3b1
                    try clear p3
                    try clear q3
                    try clear hx3
                    try clear qi3
                    try clear c4
                    try clear c4b0
                    try clear c4b1
                    try clear c5
                    try clear p6
                    try clear c8
                    try clear c16
                    try clear c18
                    try clear c19
                    try clear c19b0
                    try clear c19b1
                    try clear c20
                    try clear c22
                    try clear c22b0
                    try clear c22b1
                    try clear c23
                    try clear c25
                    try clear c25b0
                    try clear c25b1
                    try clear c26
                    try clear c28
                    try clear c28b0
                    try clear c28b1
                    try clear c29
                    try clear c31
                    try clear c33
                    try clear c36
                    try clear p36
                    try clear q36
                    try clear hx36
                    try clear qi36
                    try clear c37
                    try clear c39
                    try clear c39b0
                    try clear c40
                    try clear c40b0
                    try clear c42
                    try clear c42b0
                    try clear c42b1
                    try clear c43
                    try clear c44
                    try clear c48
                    try clear c49
                    try clear c50
                    try clear hcz11_0
                    try clear hcz11_1
                    try clear hcz11_2
                    try clear hcz11_3
                    try clear hcz17_0
                    try clear hcz17_1
                    try clear hcz17_2
                    try clear hcz17_3
                    try clear hcz21_0
                    try clear hcz21_1
                    try clear hcz21_2
                    try clear hcz21_3
                    try clear hcz24_0
                    try clear hcz24_1
                    try clear hcz24_2
                    try clear hcz24_3
                    try clear hcz27_0
                    try clear hcz27_1
                    try clear hcz27_2
                    try clear hcz27_3
                    try clear hcz30_0
                    try clear hcz30_1
                    try clear hcz30_2
                    try clear hcz30_3
                    try clear hcz32_0
                    try clear hcz32_1
                    try clear hcz32_2
                    try clear hcz32_3
                    try clear hcz34_0
                    try clear hcz34_1
                    try clear hcz34_2
                    try clear hcz34_3
                    try clear hcz38_0
                    try clear hcz38_1
                    try clear hcz38_2
                    try clear hcz38_3
                    try clear hcz45_0
                    try clear hcz45_1
                    try clear hcz45_2
                    try clear hcz45_3
                    try clear hcz51_0
                    try clear hcz51_1
                    try clear hcz51_2
                    try clear hcz51_3
                    try clear hcz9_0
                    try clear hcz9_1
                    try clear hcz9_2
                    try clear hcz9_3
                    try clear hfz11_0
                    try clear hfz11_1
                    try clear hfz11_2
                    try clear hfz11_3
                    try clear hfz17_0
                    try clear hfz17_1
                    try clear hfz17_2
                    try clear hfz17_3
                    try clear hfz21_0
                    try clear hfz21_1
                    try clear hfz21_2
                    try clear hfz21_3
                    try clear hfz24_0
                    try clear hfz24_1
                    try clear hfz24_2
                    try clear hfz24_3
                    try clear hfz27_0
                    try clear hfz27_1
                    try clear hfz27_2
                    try clear hfz27_3
                    try clear hfz30_0
                    try clear hfz30_1
                    try clear hfz30_2
                    try clear hfz30_3
                    try clear hfz32_0
                    try clear hfz32_1
                    try clear hfz32_2
                    try clear hfz32_3
                    try clear hfz34_0
                    try clear hfz34_1
                    try clear hfz34_2
                    try clear hfz34_3
                    try clear hfz38_0
                    try clear hfz38_1
                    try clear hfz38_2
                    try clear hfz38_3
                    try clear hfz45_0
                    try clear hfz45_1
                    try clear hfz45_2
                    try clear hfz45_3
                    try clear hfz51_0
                    try clear hfz51_1
                    try clear hfz51_2
                    try clear hfz51_3
                    try clear hfz9_0
                    try clear hfz9_1
                    try clear hfz9_2
                    try clear hfz9_3
                    try clear hx360_0
                    try clear hx360_1
                    try clear hx360_2
                    try clear hx360_3
                    try clear hx368_0
                    try clear hx368_1
                    try clear hx368_2
                    try clear hx368_3
                    try clear p2
                    try clear p3
                    try clear p36
                    try clear p360
                    try clear p368
                    try clear q3
                    try clear q36
                    try clear q360
                    try clear q368
                    obtain ⟨x9_3, x368003_3, u368003, rfl, HA, HK3, HO_368003, HO_376003, BK358, BK359, BK367, BK375, HB⟩ := hrel
                    cases gk with
                    | zero => exact absurd HA.out (by simp [colloquyref12_Simple.l1])
                    | succ k3 =>
                      have H := HA.out
                      clear HA
                      simp only [colloquyref12_Simple.l1] at H
                      by_cases c53 : x9_3 < (t372.length : Int)
                      · rw [if_pos c53] at H
                        have c53b0 : decide (x9_3 < (t372.length : Int)) = true := decide_eq_true c53
                        clear c53
                        by_cases c54 : 0 ≤ x9_3
                        · rw [if_pos c54] at H
                          have c54b0 : decide (0 ≤ x9_3) = true := decide_eq_true c54
                          clear c54
                          by_cases c55 : x368003_3.length < 2199023255552
                          · rw [if_pos c55] at H
                            have LMc55 := Aside0.mk c55
                            clear c55
                            obtain ⟨y377, hy377⟩ : ∃ y_ : List (S24), y_ = (x368003_3 ++ [(⟨(rd_T24 t372 x9_3).f0, (rd_T24 t372 x9_3).f1, (rd_T24 t372 x9_3).f2, (rd_T24 t372 x9_3).f3⟩ : S24)]) := ⟨_, rfl⟩
                            replace H : (colloquyref12_Simple.l1 k3 a1 x5_12 x7_2 (wrap64 (x9_3 + 1)) a0_0 a0_1 a0_2 l0_3 x5_12 a0_1 a0_2 y377 t369 t370 t371 t372) = some (r1, r2, r3, r4) := by first | (rw [hy377]; with_reducible exact H) | (have H2_ := (Option.bind_some _ _).symm.trans H; rw [hy377]; with_reducible exact H2_) | (have H2_ := (Option.bind_some _ _).symm.trans H; with_reducible exact H2_) | with_reducible exact H | (rw [hy377]; exact H) | exact H
                            have Ny377 := Aside0.mk hy377
                            clear hy377
                            have H' := Aside0.mk H
                            clear H
                            have hnb56 := NB375_358.out
                            have hnc56 := NB358_375.out
                            have hnb57 := NB375_359.out
                            have hnc57 := NB359_375.out
                            have hnb58 := NB375_367.out
                            have hnc58 := NB367_375.out
                            have hcz59_0 : wr.cell? ⟨gb375, 0, none⟩ = some (.int .i64 t369) := (blk_cell BK375.out 0).trans rfl
                            have hcz59_1 : wr.cell? ⟨gb375, 1, none⟩ = some (.string t370) := (blk_cell BK375.out 1).trans rfl
                            have hcz59_2 : wr.cell? ⟨gb375, 2, none⟩ = some (.string t371) := (blk_cell BK375.out 2).trans rfl
                            have hcz59_3 : wr.cell? ⟨gb375, 3, none⟩ = some (.slice Ao52 t372.length co52) := (blk_cell BK375.out 3).trans rfl
                            have hfz59_0 := blk_frozen BK375.out 0
                            have hfz59_1 := blk_frozen BK375.out 1
                            have hfz59_2 := blk_frozen BK375.out 2
                            have hfz59_3 := blk_frozen BK375.out 3
                            try go_wp2
                            have n0_ := Aside0.mk (Kd.N_drew HO_368003.out)
                            have n1_ := Aside0.mk (Kd.N_drew HO_376003.out)
                            have n2_ := Aside0.mk (blk_drew BK358.out)
                            have n3_ := Aside0.mk (blk_drew BK359.out)
                            have n4_ := Aside0.mk (blk_drew BK367.out)
                            have n5_ := Aside0.mk (blk_drew BK375.out)
                            have n6_ := Aside0.mk (below_drew1 HB.out)
                            clear HO_368003
                            clear HO_376003
                            clear BK358
                            clear BK359
                            clear BK367
                            clear BK375
                            clear HB
                            have HO_368003 := n0_
                            have HO_376003 := n1_
                            have BK358 := n2_
                            have BK359 := n3_
                            have BK367 := n4_
                            have BK375 := n5_
                            have HB := n6_
                            clear n0_ n1_ n2_ n3_ n4_ n5_ n6_
                            have p376 : 0 ≤ (x9_3 : Int) := of_decide_eq_true (by first | (with_reducible assumption) | assumption)
                            have q376 : x9_3 < (t372.length : Int) := of_decide_eq_true (by first | (with_reducible assumption) | assumption)
                            obtain ⟨ad376, A376_3, c376_3, e376, hx376_0, hx376_1, hx376_2, hx376_3, hl376_3, hi376_3⟩ := at_T24 (Kd.N_reads' HO_376003.out).2.2 x9_3 p376 q376
                            cases e376
                            obtain ⟨ce376, hce376, hMe376, hcc376⟩ := Kd.N_get HO_376003.out z24 x9_3 p376 (by first | exact q376 | exact of_decide_eq_true (by first | (with_reducible assumption) | assumption) | (have e_ := (Kd.N_reads' HO_376003.out).1; omega))
                            obtain ⟨ua376_3, uc376_3, rfl, ul376_3, ge376_3⟩ := k24_openF hMe376
                            have hv376_3 := hcc376 3 _ rfl
                            rw [add_field _ _ 3 (by omega)] at hv376_3
                            replace hv376_3 := Option.some.inj (hv376_3.symm.trans hx376_3)
                            injection hv376_3 with hva_ hvn_ hvc_
                            rw [hva_] at ge376_3
                            rw [hvc_] at ul376_3
                            have HL376_3 := Aside0.mk (show Kd.V k24 24 _ w.heap.size _ _ ((rd_T24 t372 x9_3).f3) from Kd.V_mk ul376_3 ge376_3)
                            clear hva_ hvn_ hvc_ ge376_3 ul376_3
                            clear hcc376 hce376
                            have HR376_3 := Aside0.mk hi376_3
                            have HC376_3 := Aside0.mk hl376_3
                            clear hi376_3 hl376_3
                            replace p376 := eq_true p376
                            replace q376 := eq_true q376
                            refine start_ (n := 11) (S := fun w' => w'.cell? ⟨gb367, 0, none⟩ = some (.int .i64 x5_12) ∧ w'.cell? ⟨gb367, 1, none⟩ = some (.string a0_1) ∧ w'.cell? ⟨gb367, 2, none⟩ = some (.string a0_2) ∧ w'.cell? ⟨gb367, 3, none⟩ = some (u368003) ∧ w'.cell? ⟨gb375, 0, none⟩ = some (.int .i64 t369) ∧ w'.cell? ⟨gb375, 1, none⟩ = some (.string t370) ∧ w'.cell? ⟨gb375, 2, none⟩ = some (.string t371) ∧ w'.cell? ⟨gb375, 3, none⟩ = some (.slice (some ad376) t372.length co52) ∧ w'.cell? (ad376.add ((x9_3).toNat * 4)) = some (.int .i64 ((rd_T24 t372 x9_3).f0)) ∧ w'.cell? ⟨(ad376.add ((x9_3).toNat * 4)).block, (ad376.add ((x9_3).toNat * 4)).off + 1, none⟩ = some (.string ((rd_T24 t372 x9_3).f1)) ∧ w'.cell? ⟨(ad376.add ((x9_3).toNat * 4)).block, (ad376.add ((x9_3).toNat * 4)).off + 2, none⟩ = some (.string ((rd_T24 t372 x9_3).f2)) ∧ w'.cell? ⟨(ad376.add ((x9_3).toNat * 4)).block, (ad376.add ((x9_3).toNat * 4)).off + 3, none⟩ = some (.slice A376_3 ((rd_T24 t372 x9_3).f3).length c376_3)) (ds := [8, 10]) #[false, false, false, false, false, false, false, false, false, false, false] (by kernel_rfl) rfl rfl ⟨(blk_cell BK367.out 0).trans rfl, (blk_cell BK367.out 1).trans rfl, (blk_cell BK367.out 2).trans rfl, (blk_cell BK367.out 3).trans rfl, (blk_cell BK375.out 0).trans rfl, (blk_cell BK375.out 1).trans rfl, (blk_cell BK375.out 2).trans rfl, (blk_cell BK375.out 3).trans rfl, hx376_0, hx376_1, hx376_2, hx376_3⟩ (fun hHeld => ?_); refine with_tabW colloquyref12_Simple.tab23 colloquyref12_Simple.bits23 (fun HT_ HW_ => ?_)
                            generalize wr.drew = w60 at HO_368003 HO_376003 BK358 BK359 BK367 BK375 HB HL376_3 HR376_3 hx376_0 hx376_1 hx376_2 hx376_3 hHeld ⊢
                            refine pure_ (i := 0) (N := some 64) (v := ?_) (a' := ?_) #[true, false, false, false, false, false, false, false, false, false, false] rfl rfl (any_of HT_.out (by kernel_rfl)) (fun _ _ _ h => h) (Or.inl ⟨by rfl, ?_⟩) ?_ ?_
                            rotate_left
                            · intro w'
                              go_simp
                              with_reducible rfl
                            rotate_left
                            · simp only [Act.put, List.setIfInBounds_toArray, List.set_cons_zero, List.set_cons_succ, i64_w, i32_w]
                              rfl
                            refine pure_ (i := 2) (N := some 66) (v := ?_) (a' := ?_) #[true, false, true, false, false, false, false, false, false, false, false] rfl rfl (any_of HT_.out (by kernel_rfl)) (fun _ _ _ h => h) (Or.inl ⟨by rfl, ?_⟩) ?_ ?_
                            rotate_left
                            · intro w'
                              go_simp
                              with_reducible rfl
                            rotate_left
                            · simp only [Act.put, List.setIfInBounds_toArray, List.set_cons_zero, List.set_cons_succ, i64_w, i32_w]
                              rfl
                            refine pure_ (i := 4) (N := some 68) (v := ?_) (a' := ?_) #[true, false, true, false, true, false, false, false, false, false, false] rfl rfl (any_of HT_.out (by kernel_rfl)) (fun _ _ _ h => h) (Or.inl ⟨by rfl, ?_⟩) ?_ ?_
                            rotate_left
                            · intro w'
                              go_simp
                              with_reducible rfl
                            rotate_left
                            · simp only [Act.put, List.setIfInBounds_toArray, List.set_cons_zero, List.set_cons_succ, i64_w, i32_w]
                              rfl
                            refine take_ (i := 1) (N := some 65) (v := ?_) (a' := ?_) #[true, true, true, false, true, false, false, false, false, false, false] rfl rfl (take_ofW HT_.out HW_.out (by kernel_rfl)) (fun _ _ _ h => h) (Or.inl ⟨by rfl, ?_⟩) hHeld ?_ ?_
                            rotate_left
                            · rintro w' ⟨s0, s1, s2, s3, s4, s5, s6, s7, s8, s9, s10, s11⟩
                              go_simp
                              with_reducible rfl
                            rotate_left
                            · simp only [Act.put, List.setIfInBounds_toArray, List.set_cons_zero, List.set_cons_succ, i64_w, i32_w]
                              rfl
                            refine take_ (i := 3) (N := some 67) (v := ?_) (a' := ?_) #[true, true, true, true, true, false, false, false, false, false, false] rfl rfl (take_ofW HT_.out HW_.out (by kernel_rfl)) (fun _ _ _ h => h) (Or.inl ⟨by rfl, ?_⟩) hHeld ?_ ?_
                            rotate_left
                            · rintro w' ⟨s0, s1, s2, s3, s4, s5, s6, s7, s8, s9, s10, s11⟩
                              go_simp
                              with_reducible rfl
                            rotate_left
                            · simp only [Act.put, List.setIfInBounds_toArray, List.set_cons_zero, List.set_cons_succ, i64_w, i32_w]
                              rfl
                            refine pure_ (i := 5) (N := some 69) (v := ?_) (a' := ?_) #[true, true, true, true, true, true, false, false, false, false, false] rfl rfl (any_of HT_.out (by kernel_rfl)) (fun _ _ _ h => h) (Or.inl ⟨by rfl, ?_⟩) ?_ ?_
                            rotate_left
                            · intro w'
                              go_simp
                              with_reducible rfl
                            rotate_left
                            · simp only [Act.put, List.setIfInBounds_toArray, List.set_cons_zero, List.set_cons_succ, i64_w, i32_w]
                              rfl
                            refine take_ (i := 6) (N := some 70) (v := ?_) (a' := ?_) #[true, true, true, true, true, true, true, false, false, false, false] rfl rfl (take_ofW HT_.out HW_.out (by kernel_rfl)) (fun _ _ _ h => h) (Or.inl ⟨by rfl, ?_⟩) hHeld ?_ ?_
                            rotate_left
                            · rintro w' ⟨s0, s1, s2, s3, s4, s5, s6, s7, s8, s9, s10, s11⟩
                              go_simp
                              with_reducible rfl
                            rotate_left
                            · simp only [Act.put, List.setIfInBounds_toArray, List.set_cons_zero, List.set_cons_succ, i64_w, i32_w]
                              rfl
                            refine one_ (i := 7) (N := some 71) #[true, true, true, true, true, true, true, true, false, false, false] rfl rfl (one_of HT_.out (by kernel_rfl)) (by decide) (fun K hK => ?_)
                            refine value_ (w1 := ?_) (v := ?_) (by rfl) rfl ?_ ?_
                            rotate_left 2
                            · go_simp
                              constructor
                              · rfl
                              · rfl
                            refine hK.out _ _ ⟨(blk_cell (blk_alloc BK367.out _) 0).trans rfl, (blk_cell (blk_alloc BK367.out _) 1).trans rfl, (blk_cell (blk_alloc BK367.out _) 2).trans rfl, (blk_cell (blk_alloc BK367.out _) 3).trans rfl, (blk_cell (blk_alloc BK375.out _) 0).trans rfl, (blk_cell (blk_alloc BK375.out _) 1).trans rfl, (blk_cell (blk_alloc BK375.out _) 2).trans rfl, (blk_cell (blk_alloc BK375.out _) 3).trans rfl, (World.cell?_alloc_lt _ _ _ (World.block_lt_of_cell? _ _ (hHeld.2.2.2.2.2.2.2.2.1))).trans (hHeld.2.2.2.2.2.2.2.2.1), (World.cell?_alloc_lt _ _ _ (World.block_lt_of_cell? _ _ (hHeld.2.2.2.2.2.2.2.2.2.1))).trans (hHeld.2.2.2.2.2.2.2.2.2.1), (World.cell?_alloc_lt _ _ _ (World.block_lt_of_cell? _ _ (hHeld.2.2.2.2.2.2.2.2.2.2.1))).trans (hHeld.2.2.2.2.2.2.2.2.2.2.1), (World.cell?_alloc_lt _ _ _ (World.block_lt_of_cell? _ _ (hHeld.2.2.2.2.2.2.2.2.2.2.2))).trans (hHeld.2.2.2.2.2.2.2.2.2.2.2)⟩ (fun hHeld => ?_)
                            clear hK K
                            refine norm_ (a' := ?_) ?_ ?_
                            rotate_left
                            · show Act.put _ (some 71) _ = _
                              simp only [Act.put, List.setIfInBounds_toArray, List.set_cons_zero, List.set_cons_succ, i64_w, i32_w]
                              rfl
                            refine last_ (i := 8) (N := some 72) #[true, true, true, true, true, true, true, true, true, false, false] rfl rfl (one_of HT_.out (by kernel_rfl)) (by decide) (fun K hK => ?_)
                            refine Kd.N_append_step k24 (w0 := w) w.heap.size (by rfl) (.tmp 65) (.tmp 71) 22 24 (.agg #[(.int .i64 0), (.string ⟨#[]⟩), (.string ⟨#[]⟩), (.slice none 0 0)]) 64 rfl Try.underlying22 info24 rfl (by decide) (by omega) u368003 x368003_3 (⟨(rd_T24 t372 x9_3).f0, (rd_T24 t372 x9_3).f1, (rd_T24 t372 x9_3).f2, (rd_T24 t372 x9_3).f3⟩ : S24) [.int .i64 ((rd_T24 t372 x9_3).f0), .string ((rd_T24 t372 x9_3).f1), .string ((rd_T24 t372 x9_3).f2), .slice A376_3 ((rd_T24 t372 x9_3).f3).length c376_3] (fun k_ => (w.heap.size ≤ k_) ∧ some k_ ≠ (.slice (some ad376) t372.length co52 : Value).ownBlock ∧ k_ ≠ gb358 ∧ k_ ≠ gb359 ∧ k_ ≠ gb367 ∧ k_ ≠ gb375) (fun k_ => ((fun k_ => (w.heap.size ≤ k_) ∧ some k_ ≠ (.slice (some ad376) t372.length co52 : Value).ownBlock ∧ k_ ≠ gb358 ∧ k_ ≠ gb359 ∧ k_ ≠ gb367 ∧ k_ ≠ gb375)) k_ ∧ some k_ ≠ (u368003 : Value).ownBlock) rfl rfl ?aP (fun _ hk => hk) ?aF ?aO ?aB ?aS ?aL ?_
                            (case aP => exact (k24_mkF _ _ (⟨(rd_T24 t372 x9_3).f0, (rd_T24 t372 x9_3).f1, (rd_T24 t372 x9_3).f2, (rd_T24 t372 x9_3).f3⟩ : S24) (Kd.V_reads' (Kd.V_mono (ok' := (fun k_ => ((fun k_ => (w.heap.size ≤ k_) ∧ some k_ ≠ (.slice (some ad376) t372.length co52 : Value).ownBlock ∧ k_ ≠ gb358 ∧ k_ ≠ gb359 ∧ k_ ≠ gb367 ∧ k_ ≠ gb375)) k_ ∧ some k_ ≠ (u368003 : Value).ownBlock)) (HL376_3.out) (fun k_ hk => ⟨⟨hk.1.1, ⟨hk.2, ⟨hk.1.2.2.1, ⟨hk.1.2.2.2.1, ⟨hk.1.2.2.2.2.1, hk.1.2.2.2.2.2⟩⟩⟩⟩⟩, hk.1.2.1⟩))).2.1 (Kd.V_F (Kd.V_mono (ok' := (fun k_ => ((fun k_ => (w.heap.size ≤ k_) ∧ some k_ ≠ (.slice (some ad376) t372.length co52 : Value).ownBlock ∧ k_ ≠ gb358 ∧ k_ ≠ gb359 ∧ k_ ≠ gb367 ∧ k_ ≠ gb375)) k_ ∧ some k_ ≠ (u368003 : Value).ownBlock)) (HL376_3.out) (fun k_ hk => ⟨⟨hk.1.1, ⟨hk.2, ⟨hk.1.2.2.1, ⟨hk.1.2.2.2.1, ⟨hk.1.2.2.2.2.1, hk.1.2.2.2.2.2⟩⟩⟩⟩⟩, hk.1.2.1⟩)))))
                            (case aB => exact (by repeat (first | (with_reducible first | exact HB.out | apply below_alloc | apply pw_below_drewN | apply below_drew1 | refine below_set ?_ GE358.out | refine below_set ?_ GE359.out | refine below_set ?_ GE367.out | refine below_set ?_ GE375.out) | exact HB.out)))
                            (case aF => exact (fun k_ hk => ⟨(Nat.le_trans (below_size (by repeat (first | (with_reducible first | exact HB.out | apply below_alloc | apply pw_below_drewN | apply below_drew1 | refine below_set ?_ GE358.out | refine below_set ?_ GE359.out | refine below_set ?_ GE367.out | refine below_set ?_ GE375.out) | exact HB.out))) hk), Kd.fresh' (Kd.N_lt (by (with_reducible repeat (first | apply Kd.N_alloc | apply Kd.N_drewN | apply Kd.N_drew)); exact HO_376003.out)) k_ hk, Kd.freshB (g := gb358) (o := .cells #[.int .i64 a0_0, .string a0_1, .string a0_2, .slice (some ad368) l0_3.length c0_3] 24 (0, 0)) (by (with_reducible repeat (first | refine blk_drewN ?_ _ | refine blk_drew ?_ | refine blk_alloc ?_ _)); exact BK358.out) k_ hk, Kd.freshB (g := gb359) (o := .cells #[.int .i64 0, .string (⟨#[]⟩ : ByteArray), .string (⟨#[]⟩ : ByteArray), .slice none 0 0] 24 (0, 0)) (by (with_reducible repeat (first | refine blk_drewN ?_ _ | refine blk_drew ?_ | refine blk_alloc ?_ _)); exact BK359.out) k_ hk, Kd.freshB (g := gb367) (o := .cells #[.int .i64 x5_12, .string a0_1, .string a0_2, u368003] 24 (0, 0)) (by (with_reducible repeat (first | refine blk_drewN ?_ _ | refine blk_drew ?_ | refine blk_alloc ?_ _)); exact BK367.out) k_ hk, Kd.freshB (g := gb375) (o := .cells #[.int .i64 t369, .string t370, .string t371, .slice (some ad376) t372.length co52] 24 (0, 0)) (by (with_reducible repeat (first | refine blk_drewN ?_ _ | refine blk_drew ?_ | refine blk_alloc ?_ _)); exact BK375.out) k_ hk⟩))
                            (case aO => exact (by (with_reducible repeat (first | apply Kd.N_alloc | apply Kd.N_drewN | apply Kd.N_drew)); exact HO_368003.out))
                            (case aS => exact (below_size (by repeat (first | (with_reducible first | exact HB.out | apply below_alloc | apply pw_below_drewN | apply below_drew1 | refine below_set ?_ GE358.out | refine below_set ?_ GE359.out | refine below_set ?_ GE367.out | refine below_set ?_ GE375.out) | exact HB.out))))
                            (case aL => have := LMc55.out; omega)
                            intro v378 w61 ho hb hg hat
                            rw [← Ny377.out] at ho
                            have n0_ := Aside0.mk (Kd.N_afterv (ok := (fun k_ => (w.heap.size ≤ k_) ∧ k_ ≠ gb358 ∧ k_ ≠ gb359 ∧ k_ ≠ gb367 ∧ k_ ≠ gb375)) (by (with_reducible repeat (first | apply Kd.N_alloc | apply Kd.N_drewN | apply Kd.N_drew)); exact Kd.N_mono HO_376003.out (fun _ hk => ⟨⟨hk.1, ⟨hk.2.2.1, ⟨hk.2.2.2.1, ⟨hk.2.2.2.2.1, hk.2.2.2.2.2⟩⟩⟩⟩, hk.2.1⟩)) hg hat)
                            have n1_ := Aside0.mk (blk_grown (g := gb358) (o := .cells #[.int .i64 a0_0, .string a0_1, .string a0_2, .slice (some ad368) l0_3.length c0_3] 24 (0, 0)) (by (with_reducible repeat (first | refine blk_drewN ?_ _ | refine blk_drew ?_ | refine blk_alloc ?_ _)); exact BK358.out) hg (Kd.N_away HO_368003.out (fun _ hk => hk.2.2.1)))
                            have n2_ := Aside0.mk (blk_grown (g := gb359) (o := .cells #[.int .i64 0, .string (⟨#[]⟩ : ByteArray), .string (⟨#[]⟩ : ByteArray), .slice none 0 0] 24 (0, 0)) (by (with_reducible repeat (first | refine blk_drewN ?_ _ | refine blk_drew ?_ | refine blk_alloc ?_ _)); exact BK359.out) hg (Kd.N_away HO_368003.out (fun _ hk => hk.2.2.2.1)))
                            have n3_ := Aside0.mk (blk_grown (g := gb367) (o := .cells #[.int .i64 x5_12, .string a0_1, .string a0_2, u368003] 24 (0, 0)) (by (with_reducible repeat (first | refine blk_drewN ?_ _ | refine blk_drew ?_ | refine blk_alloc ?_ _)); exact BK367.out) hg (Kd.N_away HO_368003.out (fun _ hk => hk.2.2.2.2.1)))
                            have n4_ := Aside0.mk (blk_grown (g := gb375) (o := .cells #[.int .i64 t369, .string t370, .string t371, .slice (some ad376) t372.length co52] 24 (0, 0)) (by (with_reducible repeat (first | refine blk_drewN ?_ _ | refine blk_drew ?_ | refine blk_alloc ?_ _)); exact BK375.out) hg (Kd.N_away HO_368003.out (fun _ hk => hk.2.2.2.2.2)))
                            have n5_ := Aside0.mk (Kd.V_afterv (ok := (fun k_ => (w.heap.size ≤ k_) ∧ some k_ ≠ (.slice (some ad376) t372.length co52 : Value).ownBlock ∧ k_ ≠ gb358 ∧ k_ ≠ gb359 ∧ k_ ≠ gb367 ∧ k_ ≠ gb375)) (by (with_reducible repeat (first | apply Kd.V_alloc | apply Kd.V_drewN | apply Kd.V_drew)); exact Kd.V_mono HL376_3.out (fun _ hk => ⟨⟨hk.1.1, ⟨hk.2, ⟨hk.1.2.2.1, ⟨hk.1.2.2.2.1, ⟨hk.1.2.2.2.2.1, hk.1.2.2.2.2.2⟩⟩⟩⟩⟩, hk.1.2.1⟩)) hg hat)
                            have n6_ := Aside0.mk (hb)
                            have n7_ := Aside0.mk (ho)
                            clear HO_376003
                            clear BK358
                            clear BK359
                            clear BK367
                            clear BK375
                            clear HL376_3
                            clear HB
                            clear HO_368003
                            have HO_376003 := n0_
                            have BK358 := n1_
                            have BK359 := n2_
                            have BK367 := n3_
                            have BK375 := n4_
                            have HL376_3 := n5_
                            have HB := n6_
                            have HO379 := n7_
                            clear n0_ n1_ n2_ n3_ n4_ n5_ n6_ n7_
                            clear ho hb hg hat
                            obtain ⟨Ao62, co62, eo62⟩ := Kd.N_slice HO379.out
                            (first | subst eo62 | (injection eo62 with f1_ f2_ f3_; have f4_ := f1_.symm; have f5_ := f3_.symm; clear f1_ f2_ f3_; subst f4_; subst f5_))
                            refine hK.out _ _ ?_
                            clear hK K
                            refine norm_ (a' := ?_) ?_ ?_
                            rotate_left
                            · show Act.put _ (some 72) _ = _
                              simp only [Act.put, List.setIfInBounds_toArray, List.set_cons_zero, List.set_cons_succ, i64_w, i32_w]
                              rfl
                            refine pure_ (i := 9) (N := some 73) (v := ?_) (a' := ?_) #[true, true, true, true, true, true, true, true, true, true, false] rfl rfl (any_of HT_.out (by kernel_rfl)) (fun _ _ _ h => h) (Or.inl ⟨by rfl, ?_⟩) ?_ ?_
                            rotate_left
                            · intro w'
                              go_simp
                              with_reducible rfl
                            rotate_left
                            · simp only [Act.put, List.setIfInBounds_toArray, List.set_cons_zero, List.set_cons_succ, i64_w, i32_w]
                              rfl
                            refine last_ (i := 10) (N := none) #[true, true, true, true, true, true, true, true, true, true, true] rfl rfl (one_of HT_.out (by kernel_rfl)) (by decide) (fun K hK => ?_)
                            have hs63 : w61.cell? ⟨gb367, 3, none⟩ = some (u368003) := (blk_cell BK367.out 3).trans rfl
                            have hfs63 := blk_frozen BK367.out 3
                            have hns63_0 := NB358_367.out
                            have hns63_1 := NB359_367.out
                            have hns63_3 := NB375_367.out
                            have hms63_0 := NB367_358.out
                            have hms63_1 := NB367_359.out
                            have hms63_3 := NB367_375.out
                            refine skip_ (w1 := ?_) (by rfl) rfl ?_ ?_
                            rotate_left
                            · go_simp
                              rfl
                            refine hK.out _ _ ?_
                            clear hK K
                            refine done_ (done_of HT_.out (by kernel_rfl)) ?_
                            try go_wp2
                            go_roundg k3
                            case measure => have := HJ12.out; have := HK2.out; have := HK3.out; omega
                            case rel => exact ⟨(wrap64 (x9_3 + 1)), (y377), (.slice Ao62 y377.length co62), (by first | rfl | (simp; done) | (simp [*]; done)), H', ⟨by have := HJ12.out; have := HK2.out; have := HK3.out; omega⟩, ⟨by (with_reducible repeat (first | apply Kd.N_alloc | apply Kd.N_drewN | apply Kd.N_drew)); exact Kd.N_mono (Kd.N_far (p := ⟨gb367, 3, none⟩) (Kd.N_mono HO379.out (fun k_ hk => (⟨hk, hk.2.2.2.2.1⟩ : _ ∧ k_ ≠ gb367))) (fun _ hk => hk.2) (.slice Ao62 y377.length co62)) (fun _ hk => ⟨hk.1.1, ⟨hk.1.2.1, ⟨hk.1.2.2.1, ⟨hk.1.2.2.2.1, ⟨hk.1.2.2.2.2.1, hk.1.2.2.2.2.2⟩⟩⟩⟩⟩)⟩, ⟨by (with_reducible repeat (first | apply Kd.N_alloc | apply Kd.N_drewN | apply Kd.N_drew)); exact Kd.N_mono (Kd.N_far (p := ⟨gb367, 3, none⟩) (Kd.N_mono HO_376003.out (fun k_ hk => (⟨hk, hk.1.2.2.2.1⟩ : _ ∧ k_ ≠ gb367))) (fun _ hk => hk.2) (.slice Ao62 y377.length co62)) (fun _ hk => ⟨hk.1.1.1, ⟨hk.1.2, ⟨hk.1.1.2.1, ⟨hk.1.1.2.2.1, ⟨hk.1.1.2.2.2.1, hk.1.1.2.2.2.2⟩⟩⟩⟩⟩)⟩, ⟨by (with_reducible repeat (first | refine blk_drewN ?_ _ | refine blk_drew ?_ | refine blk_alloc ?_ _)); refine blk_far ?_ NB358_367.out _; (with_reducible repeat (first | refine blk_drewN ?_ _ | refine blk_drew ?_ | refine blk_alloc ?_ _)); exact BK358.out⟩, ⟨by (with_reducible repeat (first | refine blk_drewN ?_ _ | refine blk_drew ?_ | refine blk_alloc ?_ _)); refine blk_far ?_ NB359_367.out _; (with_reducible repeat (first | refine blk_drewN ?_ _ | refine blk_drew ?_ | refine blk_alloc ?_ _)); exact BK359.out⟩, ⟨by (with_reducible repeat (first | refine blk_drewN ?_ _ | refine blk_drew ?_ | refine blk_alloc ?_ _)); refine blk_put (cs := #[.int .i64 x5_12, .string a0_1, .string a0_2, u368003]) ?_ 3 _ rfl; (with_reducible repeat (first | refine blk_drewN ?_ _ | refine blk_drew ?_ | refine blk_alloc ?_ _)); exact BK367.out⟩, ⟨by (with_reducible repeat (first | refine blk_drewN ?_ _ | refine blk_drew ?_ | refine blk_alloc ?_ _)); refine blk_far ?_ NB375_367.out _; (with_reducible repeat (first | refine blk_drewN ?_ _ | refine blk_drew ?_ | refine blk_alloc ?_ _)); exact BK375.out⟩, ⟨by repeat (first | (with_reducible first | exact HB.out | apply below_alloc | apply pw_below_drewN | apply below_drew1 | refine below_set ?_ GE358.out | refine below_set ?_ GE359.out | refine below_set ?_ GE367.out | refine below_set ?_ GE375.out) | exact HB.out)⟩⟩
                          · rw [if_neg c55] at H
                            exact absurd H (by simp)
                        · rw [if_neg c54] at H
                          exact absurd H (by simp)
                      · rw [if_neg c53] at H
                        have c53b0 : decide (x9_3 < (t372.length : Int)) = false := decide_eq_false c53
                        clear c53
                        have H' := Aside0.mk H
                        clear H
                        have hnb64 := NB375_358.out
                        have hnc64 := NB358_375.out
                        have hnb65 := NB375_359.out
                        have hnc65 := NB359_375.out
                        have hnb66 := NB375_367.out
                        have hnc66 := NB367_375.out
                        have hcz67_0 : wr.cell? ⟨gb375, 0, none⟩ = some (.int .i64 t369) := (blk_cell BK375.out 0).trans rfl
                        have hcz67_1 : wr.cell? ⟨gb375, 1, none⟩ = some (.string t370) := (blk_cell BK375.out 1).trans rfl
                        have hcz67_2 : wr.cell? ⟨gb375, 2, none⟩ = some (.string t371) := (blk_cell BK375.out 2).trans rfl
                        have hcz67_3 : wr.cell? ⟨gb375, 3, none⟩ = some (.slice Ao52 t372.length co52) := (blk_cell BK375.out 3).trans rfl
                        have hfz67_0 := blk_frozen BK375.out 0
                        have hfz67_1 := blk_frozen BK375.out 1
                        have hfz67_2 := blk_frozen BK375.out 2
                        have hfz67_3 := blk_frozen BK375.out 3
                        go_wp2
                        go_roundg k3
                        case measure => have := HJ12.out; have := HK2.out; have := HK3.out; omega
                        case rel => exact ⟨(wrap64 (x7_2 + 1)), (x368003_3), (u368003), (by first | rfl | (simp; done) | (simp [*]; done)), H', ⟨by have := HJ12.out; have := HK2.out; have := HK3.out; omega⟩, ⟨by (with_reducible repeat (first | apply Kd.N_alloc | apply Kd.N_drewN | apply Kd.N_drew)); exact Kd.N_mono HO_368003.out (fun _ hk => ⟨hk.1, ⟨hk.2.2.1, ⟨hk.2.2.2.1, hk.2.2.2.2.1⟩⟩⟩)⟩, ⟨by (with_reducible repeat (first | refine blk_drewN ?_ _ | refine blk_drew ?_ | refine blk_alloc ?_ _)); exact BK358.out⟩, ⟨by (with_reducible repeat (first | refine blk_drewN ?_ _ | refine blk_drew ?_ | refine blk_alloc ?_ _)); exact BK359.out⟩, ⟨by (with_reducible repeat (first | refine blk_drewN ?_ _ | refine blk_drew ?_ | refine blk_alloc ?_ _)); exact BK367.out⟩, ⟨by repeat (first | (with_reducible first | exact HB.out | apply below_alloc | apply pw_below_drewN | apply below_drew1 | refine below_set ?_ GE358.out | refine below_set ?_ GE359.out | refine below_set ?_ GE367.out | refine below_set ?_ GE375.out) | exact HB.out)⟩⟩
                · rw [if_neg c42] at H
                  have c42b0 : (t369 == x5_12) = false := beq_eq_false_iff_ne.mpr c42
                  have c42b1 : (t369 != x5_12) = true := bne_iff_ne.mpr c42
                  by_cases c68 : x368003_2.length < 2199023255552
                  · rw [if_pos c68] at H
                    have LMc68 := Aside0.mk c68
                    clear c68
                    obtain ⟨y380, hy380⟩ : ∃ y_ : List (S24), y_ = (x368003_2 ++ [(⟨t369, t370, t371, t372⟩ : S24)]) := ⟨_, rfl⟩
                    replace H : (colloquyref12_Simple.l0 k2 a1 x5_12 (wrap64 (x7_2 + 1)) a0_0 a0_1 a0_2 l0_3 x5_12 a0_1 a0_2 y380) = some (r1, r2, r3, r4) := by first | (rw [hy380]; with_reducible exact H) | (have H2_ := (Option.bind_some _ _).symm.trans H; rw [hy380]; with_reducible exact H2_) | (have H2_ := (Option.bind_some _ _).symm.trans H; with_reducible exact H2_) | with_reducible exact H | (rw [hy380]; exact H) | exact H
                    have Ny380 := Aside0.mk hy380
                    clear hy380
                    have H' := Aside0.mk H
                    clear H
                    have hnb69 := NB358_359.out
                    have hnc69 := NB359_358.out
                    have hnb70 := NB358_367.out
                    have hnc70 := NB367_358.out
                    have hcz71_0 : wr.cell? ⟨gb358, 0, none⟩ = some (.int .i64 a0_0) := (blk_cell BK358.out 0).trans rfl
                    have hcz71_1 : wr.cell? ⟨gb358, 1, none⟩ = some (.string a0_1) := (blk_cell BK358.out 1).trans rfl
                    have hcz71_2 : wr.cell? ⟨gb358, 2, none⟩ = some (.string a0_2) := (blk_cell BK358.out 2).trans rfl
                    have hcz71_3 : wr.cell? ⟨gb358, 3, none⟩ = some (.slice A0_3 l0_3.length c0_3) := (blk_cell BK358.out 3).trans rfl
                    have hfz71_0 := blk_frozen BK358.out 0
                    have hfz71_1 := blk_frozen BK358.out 1
                    have hfz71_2 := blk_frozen BK358.out 2
                    have hfz71_3 := blk_frozen BK358.out 3
                    have p368 : 0 ≤ (x7_2 : Int) := of_decide_eq_true (by first | (with_reducible assumption) | assumption)
                    have q368 : x7_2 < (l0_3.length : Int) := of_decide_eq_true (by first | (with_reducible assumption) | assumption)
                    obtain ⟨ad368, A368_3, c368_3, e368, hx368_0, hx368_1, hx368_2, hx368_3, hl368_3, hi368_3⟩ := at_T24 HR0_3.out x7_2 p368 q368
                    cases e368
                    replace hx368_0 := (HB.out.cell (World.block_lt_of_cell? w _ hx368_0)).trans hx368_0
                    replace hx368_1 := (HB.out.cell (World.block_lt_of_cell? w _ hx368_1)).trans hx368_1
                    replace hx368_2 := (HB.out.cell (World.block_lt_of_cell? w _ hx368_2)).trans hx368_2
                    replace hx368_3 := (HB.out.cell (World.block_lt_of_cell? w _ hx368_3)).trans hx368_3
                    have HR368_3 := Aside0.mk hi368_3
                    have HC368_3 := Aside0.mk hl368_3
                    clear hi368_3 hl368_3
                    replace p368 := eq_true p368
                    replace q368 := eq_true q368
                    go_wp2_with (first | ((with_reducible refine gate_callee (f := 19) rfl ?_); refine goesL_ (some 52) rfl rfl Try.func19 (by kernel_rfl) rfl #[.agg #[.int .i64 ((rd_T24 l0_3 x7_2).f0), .string ((rd_T24 l0_3 x7_2).f1), .string ((rd_T24 l0_3 x7_2).f2), .slice A368_3 ((rd_T24 l0_3 x7_2).f3).length c368_3], .bool a1] rfl (by (try simp only [List.map_toArray, List.map_cons, List.map_nil]); first | done | rfl | (simp only [List.length_drop, List.length_take]; rfl)) ?_; (with_reducible refine (ih k2 (by have := HJ12.out; have := HK2.out; omega) ((rd_T24 l0_3 x7_2).f0) ((rd_T24 l0_3 x7_2).f1) ((rd_T24 l0_3 x7_2).f2) _ _ ((rd_T24 l0_3 x7_2).f3) a1 t369 t370 t371 t372 _ ?side1 ?side2 A41.out).mono ?_); (case side1 => repeat (first | exact (Kd.C_below HR368_3.out HB.out) | (with_reducible refine Kd.C_alloc ?_ _) | (with_reducible refine Kd.C_drewN ?_ _) | (with_reducible refine Kd.C_drew ?_))); (case side2 => exact HC368_3.out); rintro e w72 ⟨v373, rfl, ho0, hb⟩; refine ⟨_, rfl, ?_⟩; have n0_ := Aside0.mk (Kd.N_elder' (by (with_reducible repeat (first | apply Kd.N_alloc | apply Kd.N_drewN | apply Kd.N_drew)); exact HO_368003.out) (Kd.N_base ho0) hb); have n1_ := Aside0.mk (Kd.N_lower (Kd.N_mono (ok' := fun k_ => (w.heap.size ≤ k_) ∧ some k_ ≠ (u368003 : Value).ownBlock ∧ k_ ≠ gb358 ∧ k_ ≠ gb359 ∧ k_ ≠ gb367) ho0 (fun k_ hk_ => ⟨(Nat.le_trans (below_size (by repeat (first | (with_reducible first | exact HB.out | apply below_alloc | apply pw_below_drewN | apply below_drew1 | refine below_set ?_ GE358.out | refine below_set ?_ GE359.out | refine below_set ?_ GE367.out) | exact HB.out))) hk_), (Kd.fresh' (Kd.N_lt (by (with_reducible repeat (first | apply Kd.N_alloc | apply Kd.N_drewN | apply Kd.N_drew)); exact HO_368003.out)) k_ hk_), (Kd.freshB (g := gb358) (o := .cells #[.int .i64 a0_0, .string a0_1, .string a0_2, .slice (some ad368) l0_3.length c0_3] 24 (0, 0)) (by (with_reducible repeat (first | refine blk_drewN ?_ _ | refine blk_drew ?_ | refine blk_alloc ?_ _)); exact BK358.out) k_ hk_), (Kd.freshB (g := gb359) (o := .cells #[.int .i64 0, .string (⟨#[]⟩ : ByteArray), .string (⟨#[]⟩ : ByteArray), .slice none 0 0] 24 (0, 0)) (by (with_reducible repeat (first | refine blk_drewN ?_ _ | refine blk_drew ?_ | refine blk_alloc ?_ _)); exact BK359.out) k_ hk_), (Kd.freshB (g := gb367) (o := .cells #[.int .i64 x5_12, .string a0_1, .string a0_2, u368003] 24 (0, 0)) (by (with_reducible repeat (first | refine blk_drewN ?_ _ | refine blk_drew ?_ | refine blk_alloc ?_ _)); exact BK367.out) k_ hk_)⟩)) (below_size (by repeat (first | (with_reducible first | exact HB.out | apply below_alloc | apply pw_below_drewN | apply below_drew1 | refine below_set ?_ GE358.out | refine below_set ?_ GE359.out | refine below_set ?_ GE367.out) | exact HB.out)))); have n2_ := Aside0.mk (blk_below (g := gb358) (o := .cells #[.int .i64 a0_0, .string a0_1, .string a0_2, .slice (some ad368) l0_3.length c0_3] 24 (0, 0)) (by (with_reducible repeat (first | refine blk_drewN ?_ _ | refine blk_drew ?_ | refine blk_alloc ?_ _)); exact BK358.out) hb); have n3_ := Aside0.mk (blk_below (g := gb359) (o := .cells #[.int .i64 0, .string (⟨#[]⟩ : ByteArray), .string (⟨#[]⟩ : ByteArray), .slice none 0 0] 24 (0, 0)) (by (with_reducible repeat (first | refine blk_drewN ?_ _ | refine blk_drew ?_ | refine blk_alloc ?_ _)); exact BK359.out) hb); have n4_ := Aside0.mk (blk_below (g := gb367) (o := .cells #[.int .i64 x5_12, .string a0_1, .string a0_2, u368003] 24 (0, 0)) (by (with_reducible repeat (first | refine blk_drewN ?_ _ | refine blk_drew ?_ | refine blk_alloc ?_ _)); exact BK367.out) hb); have n5_ := Aside0.mk (below_step (by repeat (first | (with_reducible first | exact HB.out | apply below_alloc | apply pw_below_drewN | apply below_drew1 | refine below_set ?_ GE358.out | refine below_set ?_ GE359.out | refine below_set ?_ GE367.out) | exact HB.out)) hb); clear HO_368003; clear BK358; clear BK359; clear BK367; clear HB; have HO_368003 := n0_; have HO374 := n1_; have BK358 := n2_; have BK359 := n3_; have BK367 := n4_; have HB := n5_; clear n0_ n1_ n2_ n3_ n4_ n5_; (try clear hb); (try clear hb2); (try clear hk); (try clear hi); (try clear ho0)) | ((with_reducible refine gate_dst (N := 8) rfl ?_); refine box_event ?hg (N := 8) ?hd (cs := #[.int .i64 0, .string (⟨#[]⟩ : ByteArray), .string (⟨#[]⟩ : ByteArray), .slice none 0 0]) (t := 24) ?hr ?_; (case hd => rfl); (case hg => rfl); (case hr => first | (go_simp; done) | (go_simp; rfl)); intro gb375 hg w73 hbox hb; have n0_ := Aside0.mk (Kd.N_below (Kd.N_elderB (by (with_reducible repeat (first | apply Kd.N_alloc | apply Kd.N_drewN | apply Kd.N_drew)); exact HO_368003.out) gb375 (Nat.le_of_eq hg.symm)) hb); have n1_ := Aside0.mk (Kd.N_below (Kd.N_elderB (by (with_reducible repeat (first | apply Kd.N_alloc | apply Kd.N_drewN | apply Kd.N_drew)); exact HO374.out) gb375 (Nat.le_of_eq hg.symm)) hb); have n2_ := Aside0.mk (blk_below (g := gb358) (o := .cells #[.int .i64 a0_0, .string a0_1, .string a0_2, .slice (some ad368) l0_3.length c0_3] 24 (0, 0)) (by (with_reducible repeat (first | refine blk_drewN ?_ _ | refine blk_drew ?_ | refine blk_alloc ?_ _)); exact BK358.out) hb); have n3_ := Aside0.mk (blk_below (g := gb359) (o := .cells #[.int .i64 0, .string (⟨#[]⟩ : ByteArray), .string (⟨#[]⟩ : ByteArray), .slice none 0 0] 24 (0, 0)) (by (with_reducible repeat (first | refine blk_drewN ?_ _ | refine blk_drew ?_ | refine blk_alloc ?_ _)); exact BK359.out) hb); have n4_ := Aside0.mk (blk_below (g := gb367) (o := .cells #[.int .i64 x5_12, .string a0_1, .string a0_2, u368003] 24 (0, 0)) (by (with_reducible repeat (first | refine blk_drewN ?_ _ | refine blk_drew ?_ | refine blk_alloc ?_ _)); exact BK367.out) hb); have n5_ := Aside0.mk (below_step (by repeat (first | (with_reducible first | exact HB.out | apply below_alloc | apply pw_below_drewN | apply below_drew1 | refine below_set ?_ GE358.out | refine below_set ?_ GE359.out | refine below_set ?_ GE367.out) | exact HB.out)) hb); have n6_ := Aside0.mk (hbox); have n7_ := Aside0.mk ((by rw [hg]; exact (below_size (by repeat (first | (with_reducible first | exact HB.out | apply below_alloc | apply pw_below_drewN | apply below_drew1 | refine below_set ?_ GE358.out | refine below_set ?_ GE359.out | refine below_set ?_ GE367.out) | exact HB.out))) : w.heap.size ≤ gb375)); have n8_ := Aside0.mk ((by rw [hg]; exact (below_size (by repeat (first | (with_reducible first | exact HB.out | apply below_alloc | apply pw_below_drewN | apply below_drew1 | refine below_set ?_ GE358.out | refine below_set ?_ GE359.out | refine below_set ?_ GE367.out) | exact HB.out))) : w.heap.size ≤ gb375)); have n9_ := Aside0.mk ((by rw [hg]; exact Nat.ne_of_lt (blk_lt (g := gb358) (o := .cells #[.int .i64 a0_0, .string a0_1, .string a0_2, .slice (some ad368) l0_3.length c0_3] 24 (0, 0)) (by (with_reducible repeat (first | refine blk_drewN ?_ _ | refine blk_drew ?_ | refine blk_alloc ?_ _)); exact BK358.out)) : gb358 ≠ gb375)); have n10_ := Aside0.mk ((by rw [hg]; exact Nat.ne_of_gt (blk_lt (g := gb358) (o := .cells #[.int .i64 a0_0, .string a0_1, .string a0_2, .slice (some ad368) l0_3.length c0_3] 24 (0, 0)) (by (with_reducible repeat (first | refine blk_drewN ?_ _ | refine blk_drew ?_ | refine blk_alloc ?_ _)); exact BK358.out)) : gb375 ≠ gb358)); have n11_ := Aside0.mk ((by rw [hg]; exact Nat.ne_of_lt (blk_lt (g := gb359) (o := .cells #[.int .i64 0, .string (⟨#[]⟩ : ByteArray), .string (⟨#[]⟩ : ByteArray), .slice none 0 0] 24 (0, 0)) (by (with_reducible repeat (first | refine blk_drewN ?_ _ | refine blk_drew ?_ | refine blk_alloc ?_ _)); exact BK359.out)) : gb359 ≠ gb375)); have n12_ := Aside0.mk ((by rw [hg]; exact Nat.ne_of_gt (blk_lt (g := gb359) (o := .cells #[.int .i64 0, .string (⟨#[]⟩ : ByteArray), .string (⟨#[]⟩ : ByteArray), .slice none 0 0] 24 (0, 0)) (by (with_reducible repeat (first | refine blk_drewN ?_ _ | refine blk_drew ?_ | refine blk_alloc ?_ _)); exact BK359.out)) : gb375 ≠ gb359)); have n13_ := Aside0.mk ((by rw [hg]; exact Nat.ne_of_lt (blk_lt (g := gb367) (o := .cells #[.int .i64 x5_12, .string a0_1, .string a0_2, u368003] 24 (0, 0)) (by (with_reducible repeat (first | refine blk_drewN ?_ _ | refine blk_drew ?_ | refine blk_alloc ?_ _)); exact BK367.out)) : gb367 ≠ gb375)); have n14_ := Aside0.mk ((by rw [hg]; exact Nat.ne_of_gt (blk_lt (g := gb367) (o := .cells #[.int .i64 x5_12, .string a0_1, .string a0_2, u368003] 24 (0, 0)) (by (with_reducible repeat (first | refine blk_drewN ?_ _ | refine blk_drew ?_ | refine blk_alloc ?_ _)); exact BK367.out)) : gb375 ≠ gb367)); clear HO_368003; clear HO374; clear BK358; clear BK359; clear BK367; clear HB; have HO_368003 := n0_; have HO374 := n1_; have BK358 := n2_; have BK359 := n3_; have BK367 := n4_; have HB := n5_; have BK375 := n6_; have GW375 := n7_; have GE375 := n8_; have NB358_375 := n9_; have NB375_358 := n10_; have NB359_375 := n11_; have NB375_359 := n12_; have NB367_375 := n13_; have NB375_367 := n14_; clear n0_ n1_ n2_ n3_ n4_ n5_ n6_ n7_ n8_ n9_ n10_ n11_ n12_ n13_ n14_; clear hb hbox hg; have hnb74 := NB375_358.out; have hnc74 := NB358_375.out; have hnb75 := NB375_359.out; have hnc75 := NB359_375.out; have hnb76 := NB375_367.out; have hnc76 := NB367_375.out; have hcz77_0 : w73.cell? ⟨gb375, 0, none⟩ = some (.int .i64 0) := (blk_cell BK375.out 0).trans rfl; have hcz77_1 : w73.cell? ⟨gb375, 1, none⟩ = some (.string (⟨#[]⟩ : ByteArray)) := (blk_cell BK375.out 1).trans rfl; have hcz77_2 : w73.cell? ⟨gb375, 2, none⟩ = some (.string (⟨#[]⟩ : ByteArray)) := (blk_cell BK375.out 2).trans rfl; have hcz77_3 : w73.cell? ⟨gb375, 3, none⟩ = some (.slice none 0 0) := (blk_cell BK375.out 3).trans rfl; have hfz77_0 := blk_frozen BK375.out 0; have hfz77_1 := blk_frozen BK375.out 1; have hfz77_2 := blk_frozen BK375.out 2; have hfz77_3 := blk_frozen BK375.out 3; obtain ⟨Ao78, co78, eo78⟩ := Kd.N_slice HO374.out; subst eo78) | ((with_reducible refine gate_store (t := 24) (p := 8) rfl ?_); refine store_event (t := 24) (p := 8) (v := ?vo_w79) (w1 := ((((w73.setCell ⟨gb375, 0, none⟩ (.int .i64 t369)).setCell ⟨gb375, 1, none⟩ (.string t370)).setCell ⟨gb375, 2, none⟩ (.string t371)).setCell ⟨gb375, 3, none⟩ (.slice Ao78 t372.length co78))) ?hg ?ho ?hn ?hr ?_; (case ho => rfl); (case hg => rfl); (case hn => rfl); (case hr => first | (go_simp; done) | (go_simp; rfl)); intro w79 hw; have n0_ : Aside0 (Kd.N k24 24 w79 w.heap.size (fun k_ => (w.heap.size ≤ k_) ∧ some k_ ≠ (.slice Ao78 t372.length co78 : Value).ownBlock ∧ k_ ≠ gb358 ∧ k_ ≠ gb359 ∧ k_ ≠ gb367 ∧ k_ ≠ gb375) u368003 x368003_2) := ⟨(by rw [hw]; exact (by (with_reducible repeat (first | apply Kd.N_alloc | apply Kd.N_drewN | apply Kd.N_drew)); exact Kd.N_mono (Kd.N_far (p := ⟨gb375, 3, none⟩) (Kd.N_far (p := ⟨gb375, 2, none⟩) (Kd.N_far (p := ⟨gb375, 1, none⟩) (Kd.N_far (p := ⟨gb375, 0, none⟩) (Kd.N_mono HO_368003.out (fun k_ hk => (⟨hk, hk.2⟩ : _ ∧ k_ ≠ gb375))) (fun _ hk => hk.2) (.int .i64 t369)) (fun _ hk => hk.2) (.string t370)) (fun _ hk => hk.2) (.string t371)) (fun _ hk => hk.2) (.slice Ao78 t372.length co78)) (fun _ hk => ⟨hk.1.1.1.1, ⟨hk.1.1.2, ⟨hk.1.1.1.2.1, ⟨hk.1.1.1.2.2.1, ⟨hk.1.1.1.2.2.2, hk.1.2⟩⟩⟩⟩⟩)))⟩; have n1_ : Aside0 (Kd.N k24 24 w79 w.heap.size (fun k_ => (w.heap.size ≤ k_) ∧ some k_ ≠ (u368003 : Value).ownBlock ∧ k_ ≠ gb358 ∧ k_ ≠ gb359 ∧ k_ ≠ gb367 ∧ k_ ≠ gb375) (.slice Ao78 t372.length co78) t372) := ⟨(by rw [hw]; exact (by (with_reducible repeat (first | apply Kd.N_alloc | apply Kd.N_drewN | apply Kd.N_drew)); exact Kd.N_mono (Kd.N_far (p := ⟨gb375, 3, none⟩) (Kd.N_far (p := ⟨gb375, 2, none⟩) (Kd.N_far (p := ⟨gb375, 1, none⟩) (Kd.N_far (p := ⟨gb375, 0, none⟩) (Kd.N_mono HO374.out (fun k_ hk => (⟨hk, hk.2⟩ : _ ∧ k_ ≠ gb375))) (fun _ hk => hk.2) (.int .i64 t369)) (fun _ hk => hk.2) (.string t370)) (fun _ hk => hk.2) (.string t371)) (fun _ hk => hk.2) (.slice Ao78 t372.length co78)) (fun _ hk => ⟨hk.1.1.1, ⟨hk.1.1.2.1, ⟨hk.1.1.2.2.1, ⟨hk.1.1.2.2.2.1, ⟨hk.1.1.2.2.2.2, hk.1.2⟩⟩⟩⟩⟩)))⟩; have n2_ : Aside0 (w79.heap[gb358]? = some (.cells #[.int .i64 a0_0, .string a0_1, .string a0_2, .slice (some ad368) l0_3.length c0_3] 24 (0, 0))) := ⟨(by rw [hw]; exact (by (with_reducible repeat (first | refine blk_drewN ?_ _ | refine blk_drew ?_ | refine blk_alloc ?_ _)); refine blk_far ?_ NB358_375.out _; (with_reducible repeat (first | refine blk_drewN ?_ _ | refine blk_drew ?_ | refine blk_alloc ?_ _)); refine blk_far ?_ NB358_375.out _; (with_reducible repeat (first | refine blk_drewN ?_ _ | refine blk_drew ?_ | refine blk_alloc ?_ _)); refine blk_far ?_ NB358_375.out _; (with_reducible repeat (first | refine blk_drewN ?_ _ | refine blk_drew ?_ | refine blk_alloc ?_ _)); refine blk_far ?_ NB358_375.out _; (with_reducible repeat (first | refine blk_drewN ?_ _ | refine blk_drew ?_ | refine blk_alloc ?_ _)); exact BK358.out))⟩; have n3_ : Aside0 (w79.heap[gb359]? = some (.cells #[.int .i64 0, .string (⟨#[]⟩ : ByteArray), .string (⟨#[]⟩ : ByteArray), .slice none 0 0] 24 (0, 0))) := ⟨(by rw [hw]; exact (by (with_reducible repeat (first | refine blk_drewN ?_ _ | refine blk_drew ?_ | refine blk_alloc ?_ _)); refine blk_far ?_ NB359_375.out _; (with_reducible repeat (first | refine blk_drewN ?_ _ | refine blk_drew ?_ | refine blk_alloc ?_ _)); refine blk_far ?_ NB359_375.out _; (with_reducible repeat (first | refine blk_drewN ?_ _ | refine blk_drew ?_ | refine blk_alloc ?_ _)); refine blk_far ?_ NB359_375.out _; (with_reducible repeat (first | refine blk_drewN ?_ _ | refine blk_drew ?_ | refine blk_alloc ?_ _)); refine blk_far ?_ NB359_375.out _; (with_reducible repeat (first | refine blk_drewN ?_ _ | refine blk_drew ?_ | refine blk_alloc ?_ _)); exact BK359.out))⟩; have n4_ : Aside0 (w79.heap[gb367]? = some (.cells #[.int .i64 x5_12, .string a0_1, .string a0_2, u368003] 24 (0, 0))) := ⟨(by rw [hw]; exact (by (with_reducible repeat (first | refine blk_drewN ?_ _ | refine blk_drew ?_ | refine blk_alloc ?_ _)); refine blk_far ?_ NB367_375.out _; (with_reducible repeat (first | refine blk_drewN ?_ _ | refine blk_drew ?_ | refine blk_alloc ?_ _)); refine blk_far ?_ NB367_375.out _; (with_reducible repeat (first | refine blk_drewN ?_ _ | refine blk_drew ?_ | refine blk_alloc ?_ _)); refine blk_far ?_ NB367_375.out _; (with_reducible repeat (first | refine blk_drewN ?_ _ | refine blk_drew ?_ | refine blk_alloc ?_ _)); refine blk_far ?_ NB367_375.out _; (with_reducible repeat (first | refine blk_drewN ?_ _ | refine blk_drew ?_ | refine blk_alloc ?_ _)); exact BK367.out))⟩; have n5_ : Aside0 (w79.heap[gb375]? = some (.cells #[.int .i64 t369, .string t370, .string t371, .slice Ao78 t372.length co78] 24 (0, 0))) := ⟨(by rw [hw]; exact (by (with_reducible repeat (first | refine blk_drewN ?_ _ | refine blk_drew ?_ | refine blk_alloc ?_ _)); refine blk_put (cs := #[.int .i64 t369, .string t370, .string t371, .slice none 0 0]) ?_ 3 _ rfl; (with_reducible repeat (first | refine blk_drewN ?_ _ | refine blk_drew ?_ | refine blk_alloc ?_ _)); refine blk_put (cs := #[.int .i64 t369, .string t370, .string (⟨#[]⟩ : ByteArray), .slice none 0 0]) ?_ 2 _ rfl; (with_reducible repeat (first | refine blk_drewN ?_ _ | refine blk_drew ?_ | refine blk_alloc ?_ _)); refine blk_put (cs := #[.int .i64 t369, .string (⟨#[]⟩ : ByteArray), .string (⟨#[]⟩ : ByteArray), .slice none 0 0]) ?_ 1 _ rfl; (with_reducible repeat (first | refine blk_drewN ?_ _ | refine blk_drew ?_ | refine blk_alloc ?_ _)); refine blk_put (cs := #[.int .i64 0, .string (⟨#[]⟩ : ByteArray), .string (⟨#[]⟩ : ByteArray), .slice none 0 0]) ?_ 0 _ rfl; (with_reducible repeat (first | refine blk_drewN ?_ _ | refine blk_drew ?_ | refine blk_alloc ?_ _)); exact BK375.out))⟩; have n6_ : Aside0 (Below w.heap.size w w79) := ⟨(by rw [hw]; exact (by repeat (first | (with_reducible first | exact HB.out | apply below_alloc | apply pw_below_drewN | apply below_drew1 | refine below_set ?_ GE358.out | refine below_set ?_ GE359.out | refine below_set ?_ GE367.out | refine below_set ?_ GE375.out) | exact HB.out)))⟩; clear hw; clear HO_368003; clear HO374; clear BK358; clear BK359; clear BK367; clear BK375; clear HB; have HO_368003 := n0_; have HO374 := n1_; have BK358 := n2_; have BK359 := n3_; have BK367 := n4_; have BK375 := n5_; have HB := n6_; clear n0_ n1_ n2_ n3_ n4_ n5_ n6_; have hcz80_0 : w79.cell? ⟨gb375, 0, none⟩ = some (.int .i64 t369) := (blk_cell BK375.out 0).trans rfl; have hcz80_1 : w79.cell? ⟨gb375, 1, none⟩ = some (.string t370) := (blk_cell BK375.out 1).trans rfl; have hcz80_2 : w79.cell? ⟨gb375, 2, none⟩ = some (.string t371) := (blk_cell BK375.out 2).trans rfl; have hcz80_3 : w79.cell? ⟨gb375, 3, none⟩ = some (.slice Ao78 t372.length co78) := (blk_cell BK375.out 3).trans rfl; have hfz80_0 := blk_frozen BK375.out 0; have hfz80_1 := blk_frozen BK375.out 1; have hfz80_2 := blk_frozen BK375.out 2; have hfz80_3 := blk_frozen BK375.out 3; have hnb81 := NB367_359.out; have hnc81 := NB359_367.out; have hcz82_0 : w79.cell? ⟨gb367, 0, none⟩ = some (.int .i64 x5_12) := (blk_cell BK367.out 0).trans rfl; have hcz82_1 : w79.cell? ⟨gb367, 1, none⟩ = some (.string a0_1) := (blk_cell BK367.out 1).trans rfl; have hcz82_2 : w79.cell? ⟨gb367, 2, none⟩ = some (.string a0_2) := (blk_cell BK367.out 2).trans rfl; have hcz82_3 : w79.cell? ⟨gb367, 3, none⟩ = some (u368003) := (blk_cell BK367.out 3).trans rfl; have hfz82_0 := blk_frozen BK367.out 0; have hfz82_1 := blk_frozen BK367.out 1; have hfz82_2 := blk_frozen BK367.out 2; have hfz82_3 := blk_frozen BK367.out 3) | ((with_reducible refine gate_builtin (b := .append) (xs := #[.tmp 75, .tmp 77]) rfl ?_); at_builtin; refine Kd.N_append k24 (w0 := w) w.heap.size rfl (.tmp 75) (.tmp 77) 22 24 (.agg #[(.int .i64 0), (.string ⟨#[]⟩), (.string ⟨#[]⟩), (.slice none 0 0)]) 64 rfl Try.underlying22 info24 rfl (by decide) (by omega) u368003 x368003_2 (⟨t369, t370, t371, t372⟩ : S24) [.int .i64 t369, .string t370, .string t371, .slice Ao78 t372.length co78] (fun k_ => (w.heap.size ≤ k_) ∧ k_ ≠ gb358 ∧ k_ ≠ gb359 ∧ k_ ≠ gb367 ∧ k_ ≠ gb375) (fun k_ => ((fun k_ => (w.heap.size ≤ k_) ∧ k_ ≠ gb358 ∧ k_ ≠ gb359 ∧ k_ ≠ gb367 ∧ k_ ≠ gb375)) k_ ∧ some k_ ≠ (u368003 : Value).ownBlock) rfl rfl ?aP (fun _ hk => hk) ?aF ?aO ?aB ?aS ?aL ?_; (case aP => exact (k24_mkF _ _ (⟨t369, t370, t371, t372⟩ : S24) (Kd.N_reads' (Kd.N_mono (ok' := (fun k_ => ((fun k_ => (w.heap.size ≤ k_) ∧ k_ ≠ gb358 ∧ k_ ≠ gb359 ∧ k_ ≠ gb367 ∧ k_ ≠ gb375)) k_ ∧ some k_ ≠ (u368003 : Value).ownBlock)) (HO374.out) (fun k_ hk => ⟨⟨hk.1, ⟨hk.2.2.1, ⟨hk.2.2.2.1, ⟨hk.2.2.2.2.1, hk.2.2.2.2.2⟩⟩⟩⟩, hk.2.1⟩))).2.1 (Kd.N_F (Kd.N_mono (ok' := (fun k_ => ((fun k_ => (w.heap.size ≤ k_) ∧ k_ ≠ gb358 ∧ k_ ≠ gb359 ∧ k_ ≠ gb367 ∧ k_ ≠ gb375)) k_ ∧ some k_ ≠ (u368003 : Value).ownBlock)) (HO374.out) (fun k_ hk => ⟨⟨hk.1, ⟨hk.2.2.1, ⟨hk.2.2.2.1, ⟨hk.2.2.2.2.1, hk.2.2.2.2.2⟩⟩⟩⟩, hk.2.1⟩))))); (case aB => exact (by repeat (first | (with_reducible first | exact HB.out | apply below_alloc | apply pw_below_drewN | apply below_drew1 | refine below_set ?_ GE358.out | refine below_set ?_ GE359.out | refine below_set ?_ GE367.out | refine below_set ?_ GE375.out) | exact HB.out))); (case aF => exact (fun k_ hk => ⟨(Nat.le_trans (below_size (by repeat (first | (with_reducible first | exact HB.out | apply below_alloc | apply pw_below_drewN | apply below_drew1 | refine below_set ?_ GE358.out | refine below_set ?_ GE359.out | refine below_set ?_ GE367.out | refine below_set ?_ GE375.out) | exact HB.out))) hk), Kd.freshB (g := gb358) (o := .cells #[.int .i64 a0_0, .string a0_1, .string a0_2, .slice (some ad368) l0_3.length c0_3] 24 (0, 0)) (by (with_reducible repeat (first | refine blk_drewN ?_ _ | refine blk_drew ?_ | refine blk_alloc ?_ _)); exact BK358.out) k_ hk, Kd.freshB (g := gb359) (o := .cells #[.int .i64 0, .string (⟨#[]⟩ : ByteArray), .string (⟨#[]⟩ : ByteArray), .slice none 0 0] 24 (0, 0)) (by (with_reducible repeat (first | refine blk_drewN ?_ _ | refine blk_drew ?_ | refine blk_alloc ?_ _)); exact BK359.out) k_ hk, Kd.freshB (g := gb367) (o := .cells #[.int .i64 x5_12, .string a0_1, .string a0_2, u368003] 24 (0, 0)) (by (with_reducible repeat (first | refine blk_drewN ?_ _ | refine blk_drew ?_ | refine blk_alloc ?_ _)); exact BK367.out) k_ hk, Kd.freshB (g := gb375) (o := .cells #[.int .i64 t369, .string t370, .string t371, .slice Ao78 t372.length co78] 24 (0, 0)) (by (with_reducible repeat (first | refine blk_drewN ?_ _ | refine blk_drew ?_ | refine blk_alloc ?_ _)); exact BK375.out) k_ hk⟩)); (case aO => exact (by (with_reducible repeat (first | apply Kd.N_alloc | apply Kd.N_drewN | apply Kd.N_drew)); exact Kd.N_mono HO_368003.out (fun _ hk => ⟨hk.1, ⟨hk.2.2.1, ⟨hk.2.2.2.1, ⟨hk.2.2.2.2.1, hk.2.2.2.2.2⟩⟩⟩⟩))); (case aS => exact (below_size (by repeat (first | (with_reducible first | exact HB.out | apply below_alloc | apply pw_below_drewN | apply below_drew1 | refine below_set ?_ GE358.out | refine below_set ?_ GE359.out | refine below_set ?_ GE367.out | refine below_set ?_ GE375.out) | exact HB.out)))); (case aL => have := LMc68.out; omega); intro v381 w83 ho hb hg hat; rw [← Ny380.out] at ho; have n0_ := Aside0.mk (blk_grown (g := gb358) (o := .cells #[.int .i64 a0_0, .string a0_1, .string a0_2, .slice (some ad368) l0_3.length c0_3] 24 (0, 0)) (by (with_reducible repeat (first | refine blk_drewN ?_ _ | refine blk_drew ?_ | refine blk_alloc ?_ _)); exact BK358.out) hg (Kd.N_away HO_368003.out (fun _ hk => hk.2.2.1))); have n1_ := Aside0.mk (blk_grown (g := gb359) (o := .cells #[.int .i64 0, .string (⟨#[]⟩ : ByteArray), .string (⟨#[]⟩ : ByteArray), .slice none 0 0] 24 (0, 0)) (by (with_reducible repeat (first | refine blk_drewN ?_ _ | refine blk_drew ?_ | refine blk_alloc ?_ _)); exact BK359.out) hg (Kd.N_away HO_368003.out (fun _ hk => hk.2.2.2.1))); have n2_ := Aside0.mk (blk_grown (g := gb367) (o := .cells #[.int .i64 x5_12, .string a0_1, .string a0_2, u368003] 24 (0, 0)) (by (with_reducible repeat (first | refine blk_drewN ?_ _ | refine blk_drew ?_ | refine blk_alloc ?_ _)); exact BK367.out) hg (Kd.N_away HO_368003.out (fun _ hk => hk.2.2.2.2.1))); have n3_ := Aside0.mk (blk_grown (g := gb375) (o := .cells #[.int .i64 t369, .string t370, .string t371, .slice Ao78 t372.length co78] 24 (0, 0)) (by (with_reducible repeat (first | refine blk_drewN ?_ _ | refine blk_drew ?_ | refine blk_alloc ?_ _)); exact BK375.out) hg (Kd.N_away HO_368003.out (fun _ hk => hk.2.2.2.2.2))); have n4_ := Aside0.mk (hb); have n5_ := Aside0.mk (ho); clear BK358; clear BK359; clear BK367; clear BK375; clear HB; clear HO_368003; clear HO374; have BK358 := n0_; have BK359 := n1_; have BK367 := n2_; have BK375 := n3_; have HB := n4_; have HO382 := n5_; clear n0_ n1_ n2_ n3_ n4_ n5_; clear ho hb hg hat; obtain ⟨Ao84, co84, eo84⟩ := Kd.N_slice HO382.out; subst eo84; have hcz85_0 : w83.cell? ⟨gb367, 0, none⟩ = some (.int .i64 x5_12) := (blk_cell BK367.out 0).trans rfl; have hcz85_1 : w83.cell? ⟨gb367, 1, none⟩ = some (.string a0_1) := (blk_cell BK367.out 1).trans rfl; have hcz85_2 : w83.cell? ⟨gb367, 2, none⟩ = some (.string a0_2) := (blk_cell BK367.out 2).trans rfl; have hcz85_3 : w83.cell? ⟨gb367, 3, none⟩ = some (u368003) := (blk_cell BK367.out 3).trans rfl; have hfz85_0 := blk_frozen BK367.out 0; have hfz85_1 := blk_frozen BK367.out 1; have hfz85_2 := blk_frozen BK367.out 2; have hfz85_3 := blk_frozen BK367.out 3))
                    go_roundg k2
                    case measure => have := HJ12.out; have := HK2.out; omega
                    case rel => exact ⟨(wrap64 (x7_2 + 1)), (y380), (.slice Ao84 y380.length co84), (by first | rfl | (simp; done) | (simp [*]; done)), H', ⟨by have := HJ12.out; have := HK2.out; omega⟩, ⟨by (with_reducible repeat (first | apply Kd.N_alloc | apply Kd.N_drewN | apply Kd.N_drew)); exact Kd.N_mono (Kd.N_far (p := ⟨gb367, 3, none⟩) (Kd.N_mono HO382.out (fun k_ hk => (⟨hk, hk.2.2.2.1⟩ : _ ∧ k_ ≠ gb367))) (fun _ hk => hk.2) (.slice Ao84 y380.length co84)) (fun _ hk => ⟨hk.1.1, ⟨hk.1.2.1, ⟨hk.1.2.2.1, hk.1.2.2.2.1⟩⟩⟩)⟩, ⟨by (with_reducible repeat (first | refine blk_drewN ?_ _ | refine blk_drew ?_ | refine blk_alloc ?_ _)); refine blk_far ?_ NB358_367.out _; (with_reducible repeat (first | refine blk_drewN ?_ _ | refine blk_drew ?_ | refine blk_alloc ?_ _)); exact BK358.out⟩, ⟨by (with_reducible repeat (first | refine blk_drewN ?_ _ | refine blk_drew ?_ | refine blk_alloc ?_ _)); refine blk_far ?_ NB359_367.out _; (with_reducible repeat (first | refine blk_drewN ?_ _ | refine blk_drew ?_ | refine blk_alloc ?_ _)); exact BK359.out⟩, ⟨by (with_reducible repeat (first | refine blk_drewN ?_ _ | refine blk_drew ?_ | refine blk_alloc ?_ _)); refine blk_put (cs := #[.int .i64 x5_12, .string a0_1, .string a0_2, u368003]) ?_ 3 _ rfl; (with_reducible repeat (first | refine blk_drewN ?_ _ | refine blk_drew ?_ | refine blk_alloc ?_ _)); exact BK367.out⟩, ⟨by repeat (first | (with_reducible first | exact HB.out | apply below_alloc | apply pw_below_drewN | apply below_drew1 | refine below_set ?_ GE358.out | refine below_set ?_ GE359.out | refine below_set ?_ GE367.out | refine below_set ?_ GE375.out) | exact HB.out)⟩⟩
                  · rw [if_neg c68] at H
                    exact absurd H (by simp)
              · rw [if_neg c40] at H
                exact absurd H (by simp)
            · rw [if_neg c39] at H
              have c39b0 : decide (x7_2 < (l0_3.length : Int)) = false := decide_eq_false c39
              clear c39
              simp only [Option.some.injEq, Prod.mk.injEq] at H
              obtain ⟨rfl, rfl, rfl, rfl⟩ := H
              have hnb86 := NB358_359.out
              have hnc86 := NB359_358.out
              have hnb87 := NB358_367.out
              have hnc87 := NB367_358.out
              have hcz88_0 : wr.cell? ⟨gb358, 0, none⟩ = some (.int .i64 a0_0) := (blk_cell BK358.out 0).trans rfl
              have hcz88_1 : wr.cell? ⟨gb358, 1, none⟩ = some (.string a0_1) := (blk_cell BK358.out 1).trans rfl
              have hcz88_2 : wr.cell? ⟨gb358, 2, none⟩ = some (.string a0_2) := (blk_cell BK358.out 2).trans rfl
              have hcz88_3 : wr.cell? ⟨gb358, 3, none⟩ = some (.slice A0_3 l0_3.length c0_3) := (blk_cell BK358.out 3).trans rfl
              have hfz88_0 := blk_frozen BK358.out 0
              have hfz88_1 := blk_frozen BK358.out 1
              have hfz88_2 := blk_frozen BK358.out 2
              have hfz88_3 := blk_frozen BK358.out 3
              have hnb89 := NB367_359.out
              have hnc89 := NB359_367.out
              have hcz90_0 : wr.cell? ⟨gb367, 0, none⟩ = some (.int .i64 x5_12) := (blk_cell BK367.out 0).trans rfl
              have hcz90_1 : wr.cell? ⟨gb367, 1, none⟩ = some (.string a0_1) := (blk_cell BK367.out 1).trans rfl
              have hcz90_2 : wr.cell? ⟨gb367, 2, none⟩ = some (.string a0_2) := (blk_cell BK367.out 2).trans rfl
              have hcz90_3 : wr.cell? ⟨gb367, 3, none⟩ = some (u368003) := (blk_cell BK367.out 3).trans rfl
              have hfz90_0 := blk_frozen BK367.out 0
              have hfz90_1 := blk_frozen BK367.out 1
              have hfz90_2 := blk_frozen BK367.out 2
              have hfz90_3 := blk_frozen BK367.out 3
              have hcz91_0 : wr.cell? ⟨gb359, 0, none⟩ = some (.int .i64 0) := (blk_cell BK359.out 0).trans rfl
              have hcz91_1 : wr.cell? ⟨gb359, 1, none⟩ = some (.string (⟨#[]⟩ : ByteArray)) := (blk_cell BK359.out 1).trans rfl
              have hcz91_2 : wr.cell? ⟨gb359, 2, none⟩ = some (.string (⟨#[]⟩ : ByteArray)) := (blk_cell BK359.out 2).trans rfl
              have hcz91_3 : wr.cell? ⟨gb359, 3, none⟩ = some (.slice none 0 0) := (blk_cell BK359.out 3).trans rfl
              have hfz91_0 := blk_frozen BK359.out 0
              have hfz91_1 := blk_frozen BK359.out 1
              have hfz91_2 := blk_frozen BK359.out 2
              have hfz91_3 := blk_frozen BK359.out 3
              obtain ⟨Ao92, co92, eo92⟩ := Kd.N_slice HO_368003.out
              subst eo92
              go_wp2
              refine bodyPost_ret (results_cell_row rfl _ _ gb359 24 #[.int .i64 x5_12, .string a0_1, .string a0_2, .slice Ao92 x368003_2.length co92] (0, 0) _ rfl (by (with_reducible repeat (first | refine blk_drewN ?_ _ | refine blk_drew ?_ | refine blk_alloc ?_ _)); refine blk_put (cs := #[.int .i64 x5_12, .string a0_1, .string a0_2, .slice none 0 0]) ?_ 3 _ rfl; (with_reducible repeat (first | refine blk_drewN ?_ _ | refine blk_drew ?_ | refine blk_alloc ?_ _)); refine blk_put (cs := #[.int .i64 x5_12, .string a0_1, .string (⟨#[]⟩ : ByteArray), .slice none 0 0]) ?_ 2 _ rfl; (with_reducible repeat (first | refine blk_drewN ?_ _ | refine blk_drew ?_ | refine blk_alloc ?_ _)); refine blk_put (cs := #[.int .i64 x5_12, .string (⟨#[]⟩ : ByteArray), .string (⟨#[]⟩ : ByteArray), .slice none 0 0]) ?_ 1 _ rfl; (with_reducible repeat (first | refine blk_drewN ?_ _ | refine blk_drew ?_ | refine blk_alloc ?_ _)); refine blk_put (cs := #[.int .i64 0, .string (⟨#[]⟩ : ByteArray), .string (⟨#[]⟩ : ByteArray), .slice none 0 0]) ?_ 0 _ rfl; (with_reducible repeat (first | refine blk_drewN ?_ _ | refine blk_drew ?_ | refine blk_alloc ?_ _)); exact BK359.out) Try.underlying24 rfl (by kernel_rfl)) rfl ?_
              exact ⟨_, by first | rfl | (simp [errW_none, errW_some] <;> rfl) | (simp [*, errW_none, errW_some] <;> rfl), by (with_reducible repeat (first | apply Kd.N_alloc | apply Kd.N_drewN | apply Kd.N_drew)); exact Kd.N_mono (Kd.N_far (p := ⟨gb359, 3, none⟩) (Kd.N_far (p := ⟨gb359, 2, none⟩) (Kd.N_far (p := ⟨gb359, 1, none⟩) (Kd.N_far (p := ⟨gb359, 0, none⟩) (Kd.N_mono HO_368003.out (fun k_ hk => (⟨hk, hk.2.2.1⟩ : _ ∧ k_ ≠ gb359))) (fun _ hk => hk.2) (.int .i64 x5_12)) (fun _ hk => hk.2) (.string a0_1)) (fun _ hk => hk.2) (.string a0_2)) (fun _ hk => hk.2) (.slice Ao92 x368003_2.length co92)) (fun _ hk => hk.1.1), by repeat (first | (with_reducible first | exact HB.out | apply below_alloc | apply pw_below_drewN | apply below_drew1 | refine below_set ?_ GE358.out | refine below_set ?_ GE359.out | refine below_set ?_ GE367.out) | exact HB.out)⟩

end Go.Proofs.Ytjndcgochnaodaa.PA
