/- The row of the law SumCuts: for every input the call returns true and leaves its arguments as they were. Printed by a program of this session. -/
/- What this claim uses of this session's own texts, put together by a program: PAx68 HSumG HSumH HSumI HSumJ GText GAlive GCuts HOpen HKinds Ty49 Ty46 Ty24 StmtSumCuts PureSumCuts LawSumCuts. -/
import Derived.Test.YtljmbgilcngfgaaDoorKSumCuts3
import Derived.Test.YtljmbgilcngfgaaDoorProg
import Derived.Test.YtljmbgilcngfgaaDoorRows
import Derived.Test.YtljmbgilcngfgaaDoorCards
import Derived.Test.YtljmbgilcngfgaaDoorTie
namespace Go.Proofs.YtljmbgilcngfgaaDoor.PA
open Go.RowKit Go.Proofs.YtljmbgilcngfgaaDoorW.PrintWords Go.Proofs.YtljmbgilcngfgaaDoorW.PrintLast Go.Proofs.YtljmbgilcngfgaaDoorW.PrintMore
set_option linter.unusedVariables false
set_option linter.unusedSimpArgs false
set_option maxRecDepth 100000
set_option maxHeartbeats 8000000
section
attribute [local go_sem] max2_int min2_int max_two min_two max_three min_three max_four min_four   -- for this text's walks alone
attribute [local go_sem high] eqA49
mutual
def colloquyref20_Same.j0 : Nat → Bool → ByteArray → ByteArray → List (S53) → ByteArray → ByteArray → List (S53) → Option (Bool)
  | 0, _, _, _, _, _, _, _ => none
  | k + 1, x27, x185000, x185001, x185002, x186000, x186001, x186002 => if x27 = true then (some false) else (colloquyref20_Same.l0 k 0 x185000 x185001 x185002 x186000 x186001 x186002)
def colloquyref20_Same.l0 : Nat → Int → ByteArray → ByteArray → List (S53) → ByteArray → ByteArray → List (S53) → Option (Bool)
  | 0, _, _, _, _, _, _, _ => none
  | k + 1, x5, x185000, x185001, x185002, x186000, x186001, x186002 => if x5 < (x185002.length : Int) then (if 0 ≤ x5 then (if x5 < (x186002.length : Int) then (if ((rd_T53 x185002 x5).f0).toList = ((rd_T53 x186002 x5).f0).toList then (colloquyref20_Same.j2 k x5 ((((rd_T53 x185002 x5).f1).length : Int) != (((rd_T53 x186002 x5).f1).length : Int)) x185000 x185001 x185002 x186000 x186001 x186002) else (colloquyref20_Same.j2 k x5 true x185000 x185001 x185002 x186000 x186001 x186002)) else (none)) else (none)) else (some true)
def colloquyref20_Same.j2 : Nat → Int → Bool → ByteArray → ByteArray → List (S53) → ByteArray → ByteArray → List (S53) → Option (Bool)
  | 0, _, _, _, _, _, _, _, _ => none
  | k + 1, x5, x64, x185000, x185001, x185002, x186000, x186001, x186002 => if x64 = true then (some false) else (colloquyref20_Same.l1 k x5 0 x185000 x185001 x185002 x186000 x186001 x186002)
def colloquyref20_Same.l1 : Nat → Int → Int → ByteArray → ByteArray → List (S53) → ByteArray → ByteArray → List (S53) → Option (Bool)
  | 0, _, _, _, _, _, _, _, _ => none
  | k + 1, x5, x6, x185000, x185001, x185002, x186000, x186001, x186002 => if 0 ≤ x5 then (if x5 < (x185002.length : Int) then (if x6 < (((rd_T53 x185002 x5).f1).length : Int) then (if 0 ≤ x6 then (if x5 < (x186002.length : Int) then (if x6 < (((rd_T53 x186002 x5).f1).length : Int) then (if (!((((rd_T49 ((rd_T53 x185002 x5).f1) x6).f0).toList) == (((rd_T49 ((rd_T53 x186002 x5).f1) x6).f0).toList)) || (!(((rd_T49 ((rd_T53 x185002 x5).f1) x6).f1) == ((rd_T49 ((rd_T53 x186002 x5).f1) x6).f1)))) = true then (some false) else (colloquyref20_Same.l1 k x5 (wrap64 (x6 + 1)) x185000 x185001 x185002 x186000 x186001 x186002)) else (none)) else (none)) else (none)) else (colloquyref20_Same.l0 k (wrap64 (x5 + 1)) x185000 x185001 x185002 x186000 x186001 x186002)) else (none)) else (none)
end
def colloquyref20_Same.f (k : Nat) (a0_0 : ByteArray) (a0_1 : ByteArray) (l0_2 : List (S53)) (a1_0 : ByteArray) (a1_1 : ByteArray) (l1_2 : List (S53)) : Option (Bool) := if a0_0.toList = a1_0.toList then (if a0_1.toList = a1_1.toList then (colloquyref20_Same.j0 k ((l0_2.length : Int) != (l1_2.length : Int)) a0_0 a0_1 l0_2 a1_0 a1_1 l1_2) else (colloquyref20_Same.j0 k true a0_0 a0_1 l0_2 a1_0 a1_1 l1_2)) else (colloquyref20_Same.j0 k true a0_0 a0_1 l0_2 a1_0 a1_1 l1_2)
theorem colloquyref20_Same.mono_l : ∀ k, (∀ y0 y1 y2 y3 y4 y5 y6, LeO (colloquyref20_Same.j0 k y0 y1 y2 y3 y4 y5 y6) (colloquyref20_Same.j0 (k + 1) y0 y1 y2 y3 y4 y5 y6)) ∧ (∀ y0 y1 y2 y3 y4 y5 y6, LeO (colloquyref20_Same.l0 k y0 y1 y2 y3 y4 y5 y6) (colloquyref20_Same.l0 (k + 1) y0 y1 y2 y3 y4 y5 y6)) ∧ (∀ y0 y1 y2 y3 y4 y5 y6 y7, LeO (colloquyref20_Same.j2 k y0 y1 y2 y3 y4 y5 y6 y7) (colloquyref20_Same.j2 (k + 1) y0 y1 y2 y3 y4 y5 y6 y7)) ∧ (∀ y0 y1 y2 y3 y4 y5 y6 y7, LeO (colloquyref20_Same.l1 k y0 y1 y2 y3 y4 y5 y6 y7) (colloquyref20_Same.l1 (k + 1) y0 y1 y2 y3 y4 y5 y6 y7))
  | 0 => ⟨fun _ _ _ _ _ _ _ r h => by simp [colloquyref20_Same.j0] at h, fun _ _ _ _ _ _ _ r h => by simp [colloquyref20_Same.l0] at h, fun _ _ _ _ _ _ _ _ r h => by simp [colloquyref20_Same.j2] at h, fun _ _ _ _ _ _ _ _ r h => by simp [colloquyref20_Same.l1] at h⟩
  | k + 1 => by
    obtain ⟨ih0, ih1, ih2, ih3⟩ := colloquyref20_Same.mono_l k
    refine ⟨?_, ?_, ?_, ?_⟩
    · intro y0 y1 y2 y3 y4 y5 y6
      unfold colloquyref20_Same.j0
      repeat' first
      | (with_reducible exact ih0 _ _ _ _ _ _ _)
      | (with_reducible exact ih1 _ _ _ _ _ _ _)
      | (with_reducible exact ih2 _ _ _ _ _ _ _ _)
      | (with_reducible exact ih3 _ _ _ _ _ _ _ _)
      | (with_reducible exact LeO.refl _)
      | (with_reducible exact LeO.none _)
      | (with_reducible refine LeO.ite ?_ ?_)
      | (with_reducible refine LeO.bind ?_ (fun _ => ?_))
      | exact ih0 _ _ _ _ _ _ _
      | exact ih1 _ _ _ _ _ _ _
      | exact ih2 _ _ _ _ _ _ _ _
      | exact ih3 _ _ _ _ _ _ _ _
      | exact LeO.none _
      | refine LeO.ite ?_ ?_
      | refine LeO.bind ?_ (fun _ => ?_)
    · intro y0 y1 y2 y3 y4 y5 y6
      unfold colloquyref20_Same.l0
      repeat' first
      | (with_reducible exact ih0 _ _ _ _ _ _ _)
      | (with_reducible exact ih1 _ _ _ _ _ _ _)
      | (with_reducible exact ih2 _ _ _ _ _ _ _ _)
      | (with_reducible exact ih3 _ _ _ _ _ _ _ _)
      | (with_reducible exact LeO.refl _)
      | (with_reducible exact LeO.none _)
      | (with_reducible refine LeO.ite ?_ ?_)
      | (with_reducible refine LeO.bind ?_ (fun _ => ?_))
      | exact ih0 _ _ _ _ _ _ _
      | exact ih1 _ _ _ _ _ _ _
      | exact ih2 _ _ _ _ _ _ _ _
      | exact ih3 _ _ _ _ _ _ _ _
      | exact LeO.none _
      | refine LeO.ite ?_ ?_
      | refine LeO.bind ?_ (fun _ => ?_)
    · intro y0 y1 y2 y3 y4 y5 y6 y7
      unfold colloquyref20_Same.j2
      repeat' first
      | (with_reducible exact ih0 _ _ _ _ _ _ _)
      | (with_reducible exact ih1 _ _ _ _ _ _ _)
      | (with_reducible exact ih2 _ _ _ _ _ _ _ _)
      | (with_reducible exact ih3 _ _ _ _ _ _ _ _)
      | (with_reducible exact LeO.refl _)
      | (with_reducible exact LeO.none _)
      | (with_reducible refine LeO.ite ?_ ?_)
      | (with_reducible refine LeO.bind ?_ (fun _ => ?_))
      | exact ih0 _ _ _ _ _ _ _
      | exact ih1 _ _ _ _ _ _ _
      | exact ih2 _ _ _ _ _ _ _ _
      | exact ih3 _ _ _ _ _ _ _ _
      | exact LeO.none _
      | refine LeO.ite ?_ ?_
      | refine LeO.bind ?_ (fun _ => ?_)
    · intro y0 y1 y2 y3 y4 y5 y6 y7
      unfold colloquyref20_Same.l1
      repeat' first
      | (with_reducible exact ih0 _ _ _ _ _ _ _)
      | (with_reducible exact ih1 _ _ _ _ _ _ _)
      | (with_reducible exact ih2 _ _ _ _ _ _ _ _)
      | (with_reducible exact ih3 _ _ _ _ _ _ _ _)
      | (with_reducible exact LeO.refl _)
      | (with_reducible exact LeO.none _)
      | (with_reducible refine LeO.ite ?_ ?_)
      | (with_reducible refine LeO.bind ?_ (fun _ => ?_))
      | exact ih0 _ _ _ _ _ _ _
      | exact ih1 _ _ _ _ _ _ _
      | exact ih2 _ _ _ _ _ _ _ _
      | exact ih3 _ _ _ _ _ _ _ _
      | exact LeO.none _
      | refine LeO.ite ?_ ?_
      | refine LeO.bind ?_ (fun _ => ?_)
theorem colloquyref20_Same.mono : ∀ a0 a1 a2 a3 a4 a5 k, LeO (colloquyref20_Same.f k a0 a1 a2 a3 a4 a5) (colloquyref20_Same.f (k + 1) a0 a1 a2 a3 a4 a5) := by
  intro a0 a1 a2 a3 a4 a5 k
  obtain ⟨ih0, ih1, ih2, ih3⟩ := colloquyref20_Same.mono_l k
  unfold colloquyref20_Same.f
  repeat' first
      | (with_reducible exact ih0 _ _ _ _ _ _ _)
      | (with_reducible exact ih1 _ _ _ _ _ _ _)
      | (with_reducible exact ih2 _ _ _ _ _ _ _ _)
      | (with_reducible exact ih3 _ _ _ _ _ _ _ _)
      | (with_reducible exact LeO.refl _)
      | (with_reducible exact LeO.none _)
      | (with_reducible refine LeO.ite ?_ ?_)
      | (with_reducible refine LeO.bind ?_ (fun _ => ?_))
      | exact ih0 _ _ _ _ _ _ _
      | exact ih1 _ _ _ _ _ _ _
      | exact ih2 _ _ _ _ _ _ _ _
      | exact ih3 _ _ _ _ _ _ _ _
      | exact LeO.none _
      | refine LeO.ite ?_ ?_
      | refine LeO.bind ?_ (fun _ => ?_)
theorem colloquyref20_Same.calls (k : Nat) (a0_0 : ByteArray) (a0_1 : ByteArray) (A0_2 : Option Addr) (c0_2 : Nat) (l0_2 : List (S53)) (a1_0 : ByteArray) (a1_1 : ByteArray) (A1_2 : Option Addr) (c1_2 : Nat) (l1_2 : List (S53)) (r : Bool) (w : World) (hr0_2 : Kd.C k53 w A0_2 l0_2.length l0_2) (hc0_2 : l0_2.length ≤ c0_2) (hr1_2 : Kd.C k53 w A1_2 l1_2.length l1_2) (hc1_2 : l1_2.length ≤ c1_2) (h : colloquyref20_Same.f k a0_0 a0_1 l0_2 a1_0 a1_1 l1_2 = some r) :
    Calls Tryd.prog 20 #[.agg #[.string a0_0, .string a0_1, .slice A0_2 l0_2.length c0_2], .agg #[.string a1_0, .string a1_1, .slice A1_2 l1_2.length c1_2]] w fun e w' => e = .returned (.bool r) ∧ Below w.heap.size w w' := by
  have hu29 := Tryd.underlying29
  have hu49 := Tryd.underlying49
  have HR0_2 := Aside0.mk hr0_2
  have HC0_2 := Aside0.mk hc0_2
  clear hr0_2 hc0_2
  have HR1_2 := Aside0.mk hr1_2
  have HC1_2 := Aside0.mk hc1_2
  clear hr1_2 hc1_2
  have HB := Aside0.mk (Below.refl w.heap.size w)
  have H : (if a0_0.toList = a1_0.toList then (if a0_1.toList = a1_1.toList then (colloquyref20_Same.j0 k ((l0_2.length : Int) != (l1_2.length : Int)) a0_0 a0_1 l0_2 a1_0 a1_1 l1_2) else (colloquyref20_Same.j0 k true a0_0 a0_1 l0_2 a1_0 a1_1 l1_2)) else (colloquyref20_Same.j0 k true a0_0 a0_1 l0_2 a1_0 a1_1 l1_2)) = some r := h
  clear h
  have HC3 := Aside0.mk H
  clear H
  go_enter Tryd.func20, Tryd.ntmps20
  go_upto_region 1 with (first | ((with_reducible refine gate_dst (N := 2) rfl ?_); (try (refine gate_guard (by rfl) ?_; dsimp only)); refine box_event ?hg (N := 2) ?hd (cs := #[.string a0_0, .string a0_1, .slice A0_2 l0_2.length c0_2]) (t := 29) ?hr ?_; (case hd => rfl); (case hg => rfl); (case hr => first | (go_simp; done) | (go_simp; rfl)); intro gb184 hg w4 hbox hb; have n0_ := Aside0.mk (below_step (by repeat (first | (with_reducible first | exact HB.out | apply below_alloc | apply pw_below_drewN | apply below_drew1) | exact HB.out)) hb); have n1_ := Aside0.mk (hbox); have n2_ := Aside0.mk ((by rw [hg]; exact (below_size (by repeat (first | (with_reducible first | exact HB.out | apply below_alloc | apply pw_below_drewN | apply below_drew1) | exact HB.out))) : w.heap.size ≤ gb184)); have n3_ := Aside0.mk ((by rw [hg]; exact (below_size (by repeat (first | (with_reducible first | exact HB.out | apply below_alloc | apply pw_below_drewN | apply below_drew1) | exact HB.out))) : w.heap.size ≤ gb184)); clear HB; have HB := n0_; have BK184 := n1_; have GW184 := n2_; have GE184 := n3_; clear n0_ n1_ n2_ n3_; clear hb hbox hg) | ((with_reducible refine gate_dst (N := 3) rfl ?_); (try (refine gate_guard (by rfl) ?_; dsimp only)); refine box_event ?hg (N := 3) ?hd (cs := #[.string a1_0, .string a1_1, .slice A1_2 l1_2.length c1_2]) (t := 29) ?hr ?_; (case hd => rfl); (case hg => rfl); (case hr => first | (go_simp; done) | (go_simp; rfl)); intro gb185 hg w5 hbox hb; have n0_ := Aside0.mk (blk_below (g := gb184) (o := .cells #[.string a0_0, .string a0_1, .slice A0_2 l0_2.length c0_2] 29 (0, 0)) (by (with_reducible repeat (first | refine blk_drewN ?_ _ | refine blk_drew ?_ | refine blk_alloc ?_ _)); exact BK184.out) hb); have n1_ := Aside0.mk (below_step (by repeat (first | (with_reducible first | exact HB.out | apply below_alloc | apply pw_below_drewN | apply below_drew1 | refine below_set ?_ GE184.out) | exact HB.out)) hb); have n2_ := Aside0.mk (hbox); have n3_ := Aside0.mk ((by rw [hg]; exact (below_size (by repeat (first | (with_reducible first | exact HB.out | apply below_alloc | apply pw_below_drewN | apply below_drew1 | refine below_set ?_ GE184.out) | exact HB.out))) : w.heap.size ≤ gb185)); have n4_ := Aside0.mk ((by rw [hg]; exact (below_size (by repeat (first | (with_reducible first | exact HB.out | apply below_alloc | apply pw_below_drewN | apply below_drew1 | refine below_set ?_ GE184.out) | exact HB.out))) : w.heap.size ≤ gb185)); have n5_ := Aside0.mk ((by rw [hg]; exact Nat.ne_of_lt (blk_lt (g := gb184) (o := .cells #[.string a0_0, .string a0_1, .slice A0_2 l0_2.length c0_2] 29 (0, 0)) (by (with_reducible repeat (first | refine blk_drewN ?_ _ | refine blk_drew ?_ | refine blk_alloc ?_ _)); exact BK184.out)) : gb184 ≠ gb185)); have n6_ := Aside0.mk ((by rw [hg]; exact Nat.ne_of_gt (blk_lt (g := gb184) (o := .cells #[.string a0_0, .string a0_1, .slice A0_2 l0_2.length c0_2] 29 (0, 0)) (by (with_reducible repeat (first | refine blk_drewN ?_ _ | refine blk_drew ?_ | refine blk_alloc ?_ _)); exact BK184.out)) : gb185 ≠ gb184)); clear BK184; clear HB; have BK184 := n0_; have HB := n1_; have BK185 := n2_; have GW185 := n3_; have GE185 := n4_; have NB184_185 := n5_; have NB185_184 := n6_; clear n0_ n1_ n2_ n3_ n4_ n5_ n6_; clear hb hbox hg))
  repeat (go_quiet (first | ((with_reducible refine gate_dst (N := 2) rfl ?_); (try (refine gate_guard (by rfl) ?_; dsimp only)); refine box_event ?hg (N := 2) ?hd (cs := #[.string a0_0, .string a0_1, .slice A0_2 l0_2.length c0_2]) (t := 29) ?hr ?_; (case hd => rfl); (case hg => rfl); (case hr => first | (go_simp; done) | (go_simp; rfl)); intro gb184 hg w4 hbox hb; have n0_ := Aside0.mk (below_step (by repeat (first | (with_reducible first | exact HB.out | apply below_alloc | apply pw_below_drewN | apply below_drew1) | exact HB.out)) hb); have n1_ := Aside0.mk (hbox); have n2_ := Aside0.mk ((by rw [hg]; exact (below_size (by repeat (first | (with_reducible first | exact HB.out | apply below_alloc | apply pw_below_drewN | apply below_drew1) | exact HB.out))) : w.heap.size ≤ gb184)); have n3_ := Aside0.mk ((by rw [hg]; exact (below_size (by repeat (first | (with_reducible first | exact HB.out | apply below_alloc | apply pw_below_drewN | apply below_drew1) | exact HB.out))) : w.heap.size ≤ gb184)); clear HB; have HB := n0_; have BK184 := n1_; have GW184 := n2_; have GE184 := n3_; clear n0_ n1_ n2_ n3_; clear hb hbox hg) | ((with_reducible refine gate_dst (N := 3) rfl ?_); (try (refine gate_guard (by rfl) ?_; dsimp only)); refine box_event ?hg (N := 3) ?hd (cs := #[.string a1_0, .string a1_1, .slice A1_2 l1_2.length c1_2]) (t := 29) ?hr ?_; (case hd => rfl); (case hg => rfl); (case hr => first | (go_simp; done) | (go_simp; rfl)); intro gb185 hg w5 hbox hb; have n0_ := Aside0.mk (blk_below (g := gb184) (o := .cells #[.string a0_0, .string a0_1, .slice A0_2 l0_2.length c0_2] 29 (0, 0)) (by (with_reducible repeat (first | refine blk_drewN ?_ _ | refine blk_drew ?_ | refine blk_alloc ?_ _)); exact BK184.out) hb); have n1_ := Aside0.mk (below_step (by repeat (first | (with_reducible first | exact HB.out | apply below_alloc | apply pw_below_drewN | apply below_drew1 | refine below_set ?_ GE184.out) | exact HB.out)) hb); have n2_ := Aside0.mk (hbox); have n3_ := Aside0.mk ((by rw [hg]; exact (below_size (by repeat (first | (with_reducible first | exact HB.out | apply below_alloc | apply pw_below_drewN | apply below_drew1 | refine below_set ?_ GE184.out) | exact HB.out))) : w.heap.size ≤ gb185)); have n4_ := Aside0.mk ((by rw [hg]; exact (below_size (by repeat (first | (with_reducible first | exact HB.out | apply below_alloc | apply pw_below_drewN | apply below_drew1 | refine below_set ?_ GE184.out) | exact HB.out))) : w.heap.size ≤ gb185)); have n5_ := Aside0.mk ((by rw [hg]; exact Nat.ne_of_lt (blk_lt (g := gb184) (o := .cells #[.string a0_0, .string a0_1, .slice A0_2 l0_2.length c0_2] 29 (0, 0)) (by (with_reducible repeat (first | refine blk_drewN ?_ _ | refine blk_drew ?_ | refine blk_alloc ?_ _)); exact BK184.out)) : gb184 ≠ gb185)); have n6_ := Aside0.mk ((by rw [hg]; exact Nat.ne_of_gt (blk_lt (g := gb184) (o := .cells #[.string a0_0, .string a0_1, .slice A0_2 l0_2.length c0_2] 29 (0, 0)) (by (with_reducible repeat (first | refine blk_drewN ?_ _ | refine blk_drew ?_ | refine blk_alloc ?_ _)); exact BK184.out)) : gb185 ≠ gb184)); clear BK184; clear HB; have BK184 := n0_; have HB := n1_; have BK185 := n2_; have GW185 := n3_; have GE185 := n4_; have NB184_185 := n5_; have NB185_184 := n6_; clear n0_ n1_ n2_ n3_ n4_ n5_ n6_; clear hb hbox hg)); go_upto_region 1 with (first | ((with_reducible refine gate_dst (N := 2) rfl ?_); (try (refine gate_guard (by rfl) ?_; dsimp only)); refine box_event ?hg (N := 2) ?hd (cs := #[.string a0_0, .string a0_1, .slice A0_2 l0_2.length c0_2]) (t := 29) ?hr ?_; (case hd => rfl); (case hg => rfl); (case hr => first | (go_simp; done) | (go_simp; rfl)); intro gb184 hg w4 hbox hb; have n0_ := Aside0.mk (below_step (by repeat (first | (with_reducible first | exact HB.out | apply below_alloc | apply pw_below_drewN | apply below_drew1) | exact HB.out)) hb); have n1_ := Aside0.mk (hbox); have n2_ := Aside0.mk ((by rw [hg]; exact (below_size (by repeat (first | (with_reducible first | exact HB.out | apply below_alloc | apply pw_below_drewN | apply below_drew1) | exact HB.out))) : w.heap.size ≤ gb184)); have n3_ := Aside0.mk ((by rw [hg]; exact (below_size (by repeat (first | (with_reducible first | exact HB.out | apply below_alloc | apply pw_below_drewN | apply below_drew1) | exact HB.out))) : w.heap.size ≤ gb184)); clear HB; have HB := n0_; have BK184 := n1_; have GW184 := n2_; have GE184 := n3_; clear n0_ n1_ n2_ n3_; clear hb hbox hg) | ((with_reducible refine gate_dst (N := 3) rfl ?_); (try (refine gate_guard (by rfl) ?_; dsimp only)); refine box_event ?hg (N := 3) ?hd (cs := #[.string a1_0, .string a1_1, .slice A1_2 l1_2.length c1_2]) (t := 29) ?hr ?_; (case hd => rfl); (case hg => rfl); (case hr => first | (go_simp; done) | (go_simp; rfl)); intro gb185 hg w5 hbox hb; have n0_ := Aside0.mk (blk_below (g := gb184) (o := .cells #[.string a0_0, .string a0_1, .slice A0_2 l0_2.length c0_2] 29 (0, 0)) (by (with_reducible repeat (first | refine blk_drewN ?_ _ | refine blk_drew ?_ | refine blk_alloc ?_ _)); exact BK184.out) hb); have n1_ := Aside0.mk (below_step (by repeat (first | (with_reducible first | exact HB.out | apply below_alloc | apply pw_below_drewN | apply below_drew1 | refine below_set ?_ GE184.out) | exact HB.out)) hb); have n2_ := Aside0.mk (hbox); have n3_ := Aside0.mk ((by rw [hg]; exact (below_size (by repeat (first | (with_reducible first | exact HB.out | apply below_alloc | apply pw_below_drewN | apply below_drew1 | refine below_set ?_ GE184.out) | exact HB.out))) : w.heap.size ≤ gb185)); have n4_ := Aside0.mk ((by rw [hg]; exact (below_size (by repeat (first | (with_reducible first | exact HB.out | apply below_alloc | apply pw_below_drewN | apply below_drew1 | refine below_set ?_ GE184.out) | exact HB.out))) : w.heap.size ≤ gb185)); have n5_ := Aside0.mk ((by rw [hg]; exact Nat.ne_of_lt (blk_lt (g := gb184) (o := .cells #[.string a0_0, .string a0_1, .slice A0_2 l0_2.length c0_2] 29 (0, 0)) (by (with_reducible repeat (first | refine blk_drewN ?_ _ | refine blk_drew ?_ | refine blk_alloc ?_ _)); exact BK184.out)) : gb184 ≠ gb185)); have n6_ := Aside0.mk ((by rw [hg]; exact Nat.ne_of_gt (blk_lt (g := gb184) (o := .cells #[.string a0_0, .string a0_1, .slice A0_2 l0_2.length c0_2] 29 (0, 0)) (by (with_reducible repeat (first | refine blk_drewN ?_ _ | refine blk_drew ?_ | refine blk_alloc ?_ _)); exact BK184.out)) : gb185 ≠ gb184)); clear BK184; clear HB; have BK184 := n0_; have HB := n1_; have BK185 := n2_; have GW185 := n3_; have GE185 := n4_; have NB184_185 := n5_; have NB185_184 := n6_; clear n0_ n1_ n2_ n3_ n4_ n5_ n6_; clear hb hbox hg)))
  (try simp only [Act.put, List.setIfInBounds_toArray, List.set_cons_zero, List.set_cons_succ])
  go_cut [27] (fun v27 wc => ∃ (kq : Nat) (x27_2 : Bool), v27 = .bool x27_2 ∧ Aside0 (colloquyref20_Same.j0 kq x27_2 a0_0 a0_1 l0_2 a1_0 a1_1 l1_2 = some r) ∧ Aside0 (kq ≤ k) ∧ Aside0 (wc.heap[gb184]? = some (.cells #[.string a0_0, .string a0_1, (.slice A0_2 l0_2.length c0_2)] 29 (0, 0))) ∧ Aside0 (wc.heap[gb185]? = some (.cells #[.string a1_0, .string a1_1, (.slice A1_2 l1_2.length c1_2)] 29 (0, 0))) ∧ Aside0 (Below w.heap.size w wc))
  case first =>
    have H := HC3.out
    clear HC3
    by_cases c6 : a0_0.toList = a1_0.toList
    · rw [if_pos c6] at H
      have c6b0 : (a0_0.toList == a1_0.toList) = true := beq_iff_eq.mpr c6
      have c6b1 : (a0_0.toList != a1_0.toList) = false := bne_eq_false_iff_eq.mpr c6
      clear c6
      (first | rw [c6b0] | rw [c6b1] | (simp only [i64_w, i32_w]; rw [c6b0]) | skip)
      by_cases c7 : a0_1.toList = a1_1.toList
      · rw [if_pos c7] at H
        have c7b0 : (a0_1.toList == a1_1.toList) = true := beq_iff_eq.mpr c7
        have c7b1 : (a0_1.toList != a1_1.toList) = false := bne_eq_false_iff_eq.mpr c7
        clear c7
        have H' := Aside0.mk H
        clear H
        have hnb8 := NB184_185.out
        have hnc8 := NB185_184.out
        have hcz9_0 : w5.cell? ⟨gb184, 0, none⟩ = some (.string a0_0) := (blk_cell BK184.out 0).trans rfl
        have hcz9_1 : w5.cell? ⟨gb184, 1, none⟩ = some (.string a0_1) := (blk_cell BK184.out 1).trans rfl
        have hcz9_2 : w5.cell? ⟨gb184, 2, none⟩ = some (.slice A0_2 l0_2.length c0_2) := (blk_cell BK184.out 2).trans rfl
        have hfz9_0 := blk_frozen BK184.out 0
        have hfz9_1 := blk_frozen BK184.out 1
        have hfz9_2 := blk_frozen BK184.out 2
        have hcz10_0 : w5.cell? ⟨gb185, 0, none⟩ = some (.string a1_0) := (blk_cell BK185.out 0).trans rfl
        have hcz10_1 : w5.cell? ⟨gb185, 1, none⟩ = some (.string a1_1) := (blk_cell BK185.out 1).trans rfl
        have hcz10_2 : w5.cell? ⟨gb185, 2, none⟩ = some (.slice A1_2 l1_2.length c1_2) := (blk_cell BK185.out 2).trans rfl
        have hfz10_0 := blk_frozen BK185.out 0
        have hfz10_1 := blk_frozen BK185.out 1
        have hfz10_2 := blk_frozen BK185.out 2
        go_wp2
        repeat (go_quiet (fail); try go_wp2)
        go_meet
        case rel => exact ⟨_, (((l0_2.length : Int) != (l1_2.length : Int))), (by first | rfl | (simp; done) | (simp [*]; done)), H', ⟨by first | omega | exact Nat.le_refl _⟩, ⟨by (with_reducible repeat (first | refine blk_drewN ?_ _ | refine blk_drew ?_ | refine blk_alloc ?_ _)); exact BK184.out⟩, ⟨by (with_reducible repeat (first | refine blk_drewN ?_ _ | refine blk_drew ?_ | refine blk_alloc ?_ _)); exact BK185.out⟩, ⟨by repeat (first | (with_reducible first | exact HB.out | apply below_alloc | apply pw_below_drewN | apply below_drew1 | refine below_set ?_ GE184.out | refine below_set ?_ GE185.out) | exact HB.out)⟩⟩
      · rw [if_neg c7] at H
        have c7b0 : (a0_1.toList == a1_1.toList) = false := beq_eq_false_iff_ne.mpr c7
        have c7b1 : (a0_1.toList != a1_1.toList) = true := bne_iff_ne.mpr c7
        have H' := Aside0.mk H
        clear H
        have hnb11 := NB184_185.out
        have hnc11 := NB185_184.out
        have hcz12_0 : w5.cell? ⟨gb184, 0, none⟩ = some (.string a0_0) := (blk_cell BK184.out 0).trans rfl
        have hcz12_1 : w5.cell? ⟨gb184, 1, none⟩ = some (.string a0_1) := (blk_cell BK184.out 1).trans rfl
        have hcz12_2 : w5.cell? ⟨gb184, 2, none⟩ = some (.slice A0_2 l0_2.length c0_2) := (blk_cell BK184.out 2).trans rfl
        have hfz12_0 := blk_frozen BK184.out 0
        have hfz12_1 := blk_frozen BK184.out 1
        have hfz12_2 := blk_frozen BK184.out 2
        have hcz13_0 : w5.cell? ⟨gb185, 0, none⟩ = some (.string a1_0) := (blk_cell BK185.out 0).trans rfl
        have hcz13_1 : w5.cell? ⟨gb185, 1, none⟩ = some (.string a1_1) := (blk_cell BK185.out 1).trans rfl
        have hcz13_2 : w5.cell? ⟨gb185, 2, none⟩ = some (.slice A1_2 l1_2.length c1_2) := (blk_cell BK185.out 2).trans rfl
        have hfz13_0 := blk_frozen BK185.out 0
        have hfz13_1 := blk_frozen BK185.out 1
        have hfz13_2 := blk_frozen BK185.out 2
        go_wp2
        repeat (go_quiet (fail); try go_wp2)
        go_meet
        case rel => exact ⟨_, (true), (by first | rfl | (simp; done) | (simp [*]; done)), H', ⟨by first | omega | exact Nat.le_refl _⟩, ⟨by (with_reducible repeat (first | refine blk_drewN ?_ _ | refine blk_drew ?_ | refine blk_alloc ?_ _)); exact BK184.out⟩, ⟨by (with_reducible repeat (first | refine blk_drewN ?_ _ | refine blk_drew ?_ | refine blk_alloc ?_ _)); exact BK185.out⟩, ⟨by repeat (first | (with_reducible first | exact HB.out | apply below_alloc | apply pw_below_drewN | apply below_drew1 | refine below_set ?_ GE184.out | refine below_set ?_ GE185.out) | exact HB.out)⟩⟩
    · rw [if_neg c6] at H
      have c6b0 : (a0_0.toList == a1_0.toList) = false := beq_eq_false_iff_ne.mpr c6
      have c6b1 : (a0_0.toList != a1_0.toList) = true := bne_iff_ne.mpr c6
      (first | rw [c6b0] | rw [c6b1] | (simp only [i64_w, i32_w]; rw [c6b0]) | skip)
      have H' := Aside0.mk H
      clear H
      have hnb14 := NB184_185.out
      have hnc14 := NB185_184.out
      have hcz15_0 : w5.cell? ⟨gb184, 0, none⟩ = some (.string a0_0) := (blk_cell BK184.out 0).trans rfl
      have hcz15_1 : w5.cell? ⟨gb184, 1, none⟩ = some (.string a0_1) := (blk_cell BK184.out 1).trans rfl
      have hcz15_2 : w5.cell? ⟨gb184, 2, none⟩ = some (.slice A0_2 l0_2.length c0_2) := (blk_cell BK184.out 2).trans rfl
      have hfz15_0 := blk_frozen BK184.out 0
      have hfz15_1 := blk_frozen BK184.out 1
      have hfz15_2 := blk_frozen BK184.out 2
      have hcz16_0 : w5.cell? ⟨gb185, 0, none⟩ = some (.string a1_0) := (blk_cell BK185.out 0).trans rfl
      have hcz16_1 : w5.cell? ⟨gb185, 1, none⟩ = some (.string a1_1) := (blk_cell BK185.out 1).trans rfl
      have hcz16_2 : w5.cell? ⟨gb185, 2, none⟩ = some (.slice A1_2 l1_2.length c1_2) := (blk_cell BK185.out 2).trans rfl
      have hfz16_0 := blk_frozen BK185.out 0
      have hfz16_1 := blk_frozen BK185.out 1
      have hfz16_2 := blk_frozen BK185.out 2
      go_wp2
      repeat (go_quiet (fail); try go_wp2)
      go_meet
      case rel => exact ⟨_, (true), (by first | rfl | (simp; done) | (simp [*]; done)), H', ⟨by first | omega | exact Nat.le_refl _⟩, ⟨by (with_reducible repeat (first | refine blk_drewN ?_ _ | refine blk_drew ?_ | refine blk_alloc ?_ _)); exact BK184.out⟩, ⟨by (with_reducible repeat (first | refine blk_drewN ?_ _ | refine blk_drew ?_ | refine blk_alloc ?_ _)); exact BK185.out⟩, ⟨by repeat (first | (with_reducible first | exact HB.out | apply below_alloc | apply pw_below_drewN | apply below_drew1 | refine below_set ?_ GE184.out | refine below_set ?_ GE185.out) | exact HB.out)⟩⟩
  case rest =>
    clear HC3
    try clear c1
    try clear c2
    try clear p2
    try clear c6
    try clear c6b0
    try clear c6b1
    try clear c7
    try clear c7b0
    try clear c7b1
    try clear c8
    try clear c11
    try clear c14
    try clear hcz10_0
    try clear hcz10_1
    try clear hcz10_2
    try clear hcz12_0
    try clear hcz12_1
    try clear hcz12_2
    try clear hcz13_0
    try clear hcz13_1
    try clear hcz13_2
    try clear hcz15_0
    try clear hcz15_1
    try clear hcz15_2
    try clear hcz16_0
    try clear hcz16_1
    try clear hcz16_2
    try clear hcz9_0
    try clear hcz9_1
    try clear hcz9_2
    try clear hfz10_0
    try clear hfz10_1
    try clear hfz10_2
    try clear hfz12_0
    try clear hfz12_1
    try clear hfz12_2
    try clear hfz13_0
    try clear hfz13_1
    try clear hfz13_2
    try clear hfz15_0
    try clear hfz15_1
    try clear hfz15_2
    try clear hfz16_0
    try clear hfz16_1
    try clear hfz16_2
    try clear hfz9_0
    try clear hfz9_1
    try clear hfz9_2
    obtain ⟨kq, x27_2, rfl, HA, HJ2, BK184, BK185, HB⟩ := hcut
    cases kq with
    | zero => exact absurd HA.out (by simp [colloquyref20_Same.j0])
    | succ kj2 =>
      have H := HA.out
      clear HA
      simp only [colloquyref20_Same.j0] at H
      by_cases c17 : x27_2 = true
      · subst c17
        have H1 : (some false) = some r := by rw [if_pos rfl] at H; exact H
        clear H
        have H := H1
        clear H1
        obtain rfl := Option.some.inj H
        go_wp2
        repeat (go_quiet (fail); try go_wp2)
        go_ret
        exact ⟨by first | rfl | (simp [errW_none, errW_some] <;> rfl) | (simp [*, errW_none, errW_some] <;> rfl), by repeat (first | (with_reducible first | exact HB.out | apply below_alloc | apply pw_below_drewN | apply below_drew1 | refine below_set ?_ GE184.out | refine below_set ?_ GE185.out) | exact HB.out)⟩
      · replace c17 := Bool.eq_false_iff.mpr c17
        subst c17
        have H1 : (colloquyref20_Same.l0 kj2 0 a0_0 a0_1 l0_2 a1_0 a1_1 l1_2) = some r := by rw [if_neg (show ¬ (false = true) by decide)] at H; exact H
        clear H
        have H := H1
        clear H1
        have H' := Aside0.mk H
        clear H
        go_wp2
        repeat (go_quiet (fail); try go_wp2)
        go_loopg [5] kj2 (fun kq v5 w' => ∃ (x5_2 : Int), v5 = .int .i64 x5_2 ∧ Aside0 (colloquyref20_Same.l0 kq x5_2 a0_0 a0_1 l0_2 a1_0 a1_1 l1_2 = some r) ∧ Aside0 (kq ≤ kj2) ∧ Aside0 (w'.heap[gb184]? = some (.cells #[.string a0_0, .string a0_1, (.slice A0_2 l0_2.length c0_2)] 29 (0, 0))) ∧ Aside0 (w'.heap[gb185]? = some (.cells #[.string a1_0, .string a1_1, (.slice A1_2 l1_2.length c1_2)] 29 (0, 0))) ∧ Aside0 (Below w.heap.size w w'))
        case atStart => exact ⟨(0), (by first | rfl | (simp; done) | (simp [*]; done)), H', ⟨Nat.le_refl _⟩, ⟨by (with_reducible repeat (first | refine blk_drewN ?_ _ | refine blk_drew ?_ | refine blk_alloc ?_ _)); exact BK184.out⟩, ⟨by (with_reducible repeat (first | refine blk_drewN ?_ _ | refine blk_drew ?_ | refine blk_alloc ?_ _)); exact BK185.out⟩, ⟨by repeat (first | (with_reducible first | exact HB.out | apply below_alloc | apply pw_below_drewN | apply below_drew1 | refine below_set ?_ GE184.out | refine below_set ?_ GE185.out) | exact HB.out)⟩⟩
        case round =>
          clear H'
          try clear c1
          try clear c2
          try clear p2
          try clear c6
          try clear c6b0
          try clear c6b1
          try clear c7
          try clear c7b0
          try clear c7b1
          try clear c8
          try clear c11
          try clear c14
          try clear c17
          try clear hcz10_0
          try clear hcz10_1
          try clear hcz10_2
          try clear hcz12_0
          try clear hcz12_1
          try clear hcz12_2
          try clear hcz13_0
          try clear hcz13_1
          try clear hcz13_2
          try clear hcz15_0
          try clear hcz15_1
          try clear hcz15_2
          try clear hcz16_0
          try clear hcz16_1
          try clear hcz16_2
          try clear hcz9_0
          try clear hcz9_1
          try clear hcz9_2
          try clear hfz10_0
          try clear hfz10_1
          try clear hfz10_2
          try clear hfz12_0
          try clear hfz12_1
          try clear hfz12_2
          try clear hfz13_0
          try clear hfz13_1
          try clear hfz13_2
          try clear hfz15_0
          try clear hfz15_1
          try clear hfz15_2
          try clear hfz16_0
          try clear hfz16_1
          try clear hfz16_2
          try clear hfz9_0
          try clear hfz9_1
          try clear hfz9_2
          try clear p2
          obtain ⟨x5_2, rfl, HA, HK2, BK184, BK185, HB⟩ := hrel
          cases gk with
          | zero => exact absurd HA.out (by simp [colloquyref20_Same.l0])
          | succ k2 =>
            have H := HA.out
            clear HA
            simp only [colloquyref20_Same.l0] at H
            by_cases c18 : x5_2 < (l0_2.length : Int)
            · rw [if_pos c18] at H
              have c18b0 : decide (x5_2 < (l0_2.length : Int)) = true := decide_eq_true c18
              clear c18
              have HC19 := Aside0.mk H
              clear H
              have hnb20 := NB184_185.out
              have hnc20 := NB185_184.out
              have hcz21_0 : wr.cell? ⟨gb184, 0, none⟩ = some (.string a0_0) := (blk_cell BK184.out 0).trans rfl
              have hcz21_1 : wr.cell? ⟨gb184, 1, none⟩ = some (.string a0_1) := (blk_cell BK184.out 1).trans rfl
              have hcz21_2 : wr.cell? ⟨gb184, 2, none⟩ = some (.slice A0_2 l0_2.length c0_2) := (blk_cell BK184.out 2).trans rfl
              have hfz21_0 := blk_frozen BK184.out 0
              have hfz21_1 := blk_frozen BK184.out 1
              have hfz21_2 := blk_frozen BK184.out 2
              go_upto_region 6 with (fail)
              repeat (go_quiet (fail); go_upto_region 6 with (fail))
              go_cut [64] (fun v64 wc => ∃ (kq : Nat) (x64_18 : Bool), v64 = .bool x64_18 ∧ Aside0 (colloquyref20_Same.j2 kq x5_2 x64_18 a0_0 a0_1 l0_2 a1_0 a1_1 l1_2 = some r) ∧ Aside0 (kq ≤ k2) ∧ Aside0 (wc.heap[gb184]? = some (.cells #[.string a0_0, .string a0_1, (.slice A0_2 l0_2.length c0_2)] 29 (0, 0))) ∧ Aside0 (wc.heap[gb185]? = some (.cells #[.string a1_0, .string a1_1, (.slice A1_2 l1_2.length c1_2)] 29 (0, 0))) ∧ Aside0 (Below w.heap.size w wc))
              case first =>
                have H := HC19.out
                clear HC19
                by_cases c22 : 0 ≤ x5_2
                · rw [if_pos c22] at H
                  have c22b0 : decide (0 ≤ x5_2) = true := decide_eq_true c22
                  clear c22
                  (first | rw [c22b0] | rw [c22b1] | (simp only [i64_w, i32_w]; rw [c22b0]) | skip)
                  by_cases c23 : x5_2 < (l1_2.length : Int)
                  · rw [if_pos c23] at H
                    have c23b0 : decide (x5_2 < (l1_2.length : Int)) = true := decide_eq_true c23
                    clear c23
                    by_cases c24 : ((rd_T53 l0_2 x5_2).f0).toList = ((rd_T53 l1_2 x5_2).f0).toList
                    · rw [if_pos c24] at H
                      have c24b0 : (((rd_T53 l0_2 x5_2).f0).toList == ((rd_T53 l1_2 x5_2).f0).toList) = true := beq_iff_eq.mpr c24
                      have c24b1 : (((rd_T53 l0_2 x5_2).f0).toList != ((rd_T53 l1_2 x5_2).f0).toList) = false := bne_eq_false_iff_eq.mpr c24
                      clear c24
                      have H' := Aside0.mk H
                      clear H
                      have hnb25 := NB184_185.out
                      have hnc25 := NB185_184.out
                      have hcz26_0 : wr.cell? ⟨gb184, 0, none⟩ = some (.string a0_0) := (blk_cell BK184.out 0).trans rfl
                      have hcz26_1 : wr.cell? ⟨gb184, 1, none⟩ = some (.string a0_1) := (blk_cell BK184.out 1).trans rfl
                      have hcz26_2 : wr.cell? ⟨gb184, 2, none⟩ = some (.slice A0_2 l0_2.length c0_2) := (blk_cell BK184.out 2).trans rfl
                      have hfz26_0 := blk_frozen BK184.out 0
                      have hfz26_1 := blk_frozen BK184.out 1
                      have hfz26_2 := blk_frozen BK184.out 2
                      have p186 : 0 ≤ (x5_2 : Int) := of_decide_eq_true (by first | (with_reducible assumption) | assumption)
                      have q186 : x5_2 < (l0_2.length : Int) := of_decide_eq_true (by first | (with_reducible assumption) | assumption)
                      obtain ⟨ad186, A186_1, c186_1, e186, hx186_0, hx186_1, hl186_1, hi186_1⟩ := at_T53 HR0_2.out x5_2 p186 q186
                      cases e186
                      replace hx186_0 := (HB.out.cell (World.block_lt_of_cell? w _ hx186_0)).trans hx186_0
                      replace hx186_1 := (HB.out.cell (World.block_lt_of_cell? w _ hx186_1)).trans hx186_1
                      have HR186_1 := Aside0.mk hi186_1
                      have HC186_1 := Aside0.mk hl186_1
                      clear hi186_1 hl186_1
                      replace p186 := eq_true p186
                      replace q186 := eq_true q186
                      have hcz27_0 : wr.cell? ⟨gb185, 0, none⟩ = some (.string a1_0) := (blk_cell BK185.out 0).trans rfl
                      have hcz27_1 : wr.cell? ⟨gb185, 1, none⟩ = some (.string a1_1) := (blk_cell BK185.out 1).trans rfl
                      have hcz27_2 : wr.cell? ⟨gb185, 2, none⟩ = some (.slice A1_2 l1_2.length c1_2) := (blk_cell BK185.out 2).trans rfl
                      have hfz27_0 := blk_frozen BK185.out 0
                      have hfz27_1 := blk_frozen BK185.out 1
                      have hfz27_2 := blk_frozen BK185.out 2
                      have p187 : 0 ≤ (x5_2 : Int) := of_decide_eq_true (by first | (with_reducible assumption) | assumption)
                      have q187 : x5_2 < (l1_2.length : Int) := of_decide_eq_true (by first | (with_reducible assumption) | assumption)
                      obtain ⟨ad187, A187_1, c187_1, e187, hx187_0, hx187_1, hl187_1, hi187_1⟩ := at_T53 HR1_2.out x5_2 p187 q187
                      cases e187
                      replace hx187_0 := (HB.out.cell (World.block_lt_of_cell? w _ hx187_0)).trans hx187_0
                      replace hx187_1 := (HB.out.cell (World.block_lt_of_cell? w _ hx187_1)).trans hx187_1
                      have HR187_1 := Aside0.mk hi187_1
                      have HC187_1 := Aside0.mk hl187_1
                      clear hi187_1 hl187_1
                      replace p187 := eq_true p187
                      replace q187 := eq_true q187
                      have p188 : 0 ≤ (x5_2 : Int) := of_decide_eq_true (by first | (with_reducible assumption) | assumption)
                      have q188 : x5_2 < (l0_2.length : Int) := of_decide_eq_true (by first | (with_reducible assumption) | assumption)
                      obtain ⟨ad188, A188_1, c188_1, e188, hx188_0, hx188_1, hl188_1, hi188_1⟩ := at_T53 HR0_2.out x5_2 p188 q188
                      obtain rfl : ad186 = ad188 := (by injection e188)
                      replace hx188_0 := (HB.out.cell (World.block_lt_of_cell? w _ hx188_0)).trans hx188_0
                      replace hx188_1 := (HB.out.cell (World.block_lt_of_cell? w _ hx188_1)).trans hx188_1
                      have HR188_1 := Aside0.mk hi188_1
                      have HC188_1 := Aside0.mk hl188_1
                      clear hi188_1 hl188_1
                      replace p188 := eq_true p188
                      replace q188 := eq_true q188
                      have ea_ := Option.some.inj (hx186_1.symm.trans hx188_1)
                      injection ea_ with ea_ en_ ec_
                      subst ea_
                      subst ec_
                      clear en_
                      have p189 : 0 ≤ (x5_2 : Int) := of_decide_eq_true (by first | (with_reducible assumption) | assumption)
                      have q189 : x5_2 < (l1_2.length : Int) := of_decide_eq_true (by first | (with_reducible assumption) | assumption)
                      obtain ⟨ad189, A189_1, c189_1, e189, hx189_0, hx189_1, hl189_1, hi189_1⟩ := at_T53 HR1_2.out x5_2 p189 q189
                      obtain rfl : ad187 = ad189 := (by injection e189)
                      replace hx189_0 := (HB.out.cell (World.block_lt_of_cell? w _ hx189_0)).trans hx189_0
                      replace hx189_1 := (HB.out.cell (World.block_lt_of_cell? w _ hx189_1)).trans hx189_1
                      have HR189_1 := Aside0.mk hi189_1
                      have HC189_1 := Aside0.mk hl189_1
                      clear hi189_1 hl189_1
                      replace p189 := eq_true p189
                      replace q189 := eq_true q189
                      have ea_ := Option.some.inj (hx187_1.symm.trans hx189_1)
                      injection ea_ with ea_ en_ ec_
                      subst ea_
                      subst ec_
                      clear en_
                      go_wp2
                      repeat (go_quiet (fail); try go_wp2)
                      go_meet
                      case rel => exact ⟨_, (((((rd_T53 l0_2 x5_2).f1).length : Int) != (((rd_T53 l1_2 x5_2).f1).length : Int))), (by first | rfl | (simp; done) | (simp [*]; done)), H', ⟨by have := HJ2.out; have := HK2.out; first | omega | exact Nat.le_refl _⟩, ⟨by (with_reducible repeat (first | refine blk_drewN ?_ _ | refine blk_drew ?_ | refine blk_alloc ?_ _)); exact BK184.out⟩, ⟨by (with_reducible repeat (first | refine blk_drewN ?_ _ | refine blk_drew ?_ | refine blk_alloc ?_ _)); exact BK185.out⟩, ⟨by repeat (first | (with_reducible first | exact HB.out | apply below_alloc | apply pw_below_drewN | apply below_drew1 | refine below_set ?_ GE184.out | refine below_set ?_ GE185.out) | exact HB.out)⟩⟩
                    · rw [if_neg c24] at H
                      have c24b0 : (((rd_T53 l0_2 x5_2).f0).toList == ((rd_T53 l1_2 x5_2).f0).toList) = false := beq_eq_false_iff_ne.mpr c24
                      have c24b1 : (((rd_T53 l0_2 x5_2).f0).toList != ((rd_T53 l1_2 x5_2).f0).toList) = true := bne_iff_ne.mpr c24
                      have H' := Aside0.mk H
                      clear H
                      have hnb28 := NB184_185.out
                      have hnc28 := NB185_184.out
                      have hcz29_0 : wr.cell? ⟨gb184, 0, none⟩ = some (.string a0_0) := (blk_cell BK184.out 0).trans rfl
                      have hcz29_1 : wr.cell? ⟨gb184, 1, none⟩ = some (.string a0_1) := (blk_cell BK184.out 1).trans rfl
                      have hcz29_2 : wr.cell? ⟨gb184, 2, none⟩ = some (.slice A0_2 l0_2.length c0_2) := (blk_cell BK184.out 2).trans rfl
                      have hfz29_0 := blk_frozen BK184.out 0
                      have hfz29_1 := blk_frozen BK184.out 1
                      have hfz29_2 := blk_frozen BK184.out 2
                      have p186 : 0 ≤ (x5_2 : Int) := of_decide_eq_true (by first | (with_reducible assumption) | assumption)
                      have q186 : x5_2 < (l0_2.length : Int) := of_decide_eq_true (by first | (with_reducible assumption) | assumption)
                      obtain ⟨ad186, A186_1, c186_1, e186, hx186_0, hx186_1, hl186_1, hi186_1⟩ := at_T53 HR0_2.out x5_2 p186 q186
                      cases e186
                      replace hx186_0 := (HB.out.cell (World.block_lt_of_cell? w _ hx186_0)).trans hx186_0
                      replace hx186_1 := (HB.out.cell (World.block_lt_of_cell? w _ hx186_1)).trans hx186_1
                      have HR186_1 := Aside0.mk hi186_1
                      have HC186_1 := Aside0.mk hl186_1
                      clear hi186_1 hl186_1
                      replace p186 := eq_true p186
                      replace q186 := eq_true q186
                      have hcz30_0 : wr.cell? ⟨gb185, 0, none⟩ = some (.string a1_0) := (blk_cell BK185.out 0).trans rfl
                      have hcz30_1 : wr.cell? ⟨gb185, 1, none⟩ = some (.string a1_1) := (blk_cell BK185.out 1).trans rfl
                      have hcz30_2 : wr.cell? ⟨gb185, 2, none⟩ = some (.slice A1_2 l1_2.length c1_2) := (blk_cell BK185.out 2).trans rfl
                      have hfz30_0 := blk_frozen BK185.out 0
                      have hfz30_1 := blk_frozen BK185.out 1
                      have hfz30_2 := blk_frozen BK185.out 2
                      have p187 : 0 ≤ (x5_2 : Int) := of_decide_eq_true (by first | (with_reducible assumption) | assumption)
                      have q187 : x5_2 < (l1_2.length : Int) := of_decide_eq_true (by first | (with_reducible assumption) | assumption)
                      obtain ⟨ad187, A187_1, c187_1, e187, hx187_0, hx187_1, hl187_1, hi187_1⟩ := at_T53 HR1_2.out x5_2 p187 q187
                      cases e187
                      replace hx187_0 := (HB.out.cell (World.block_lt_of_cell? w _ hx187_0)).trans hx187_0
                      replace hx187_1 := (HB.out.cell (World.block_lt_of_cell? w _ hx187_1)).trans hx187_1
                      have HR187_1 := Aside0.mk hi187_1
                      have HC187_1 := Aside0.mk hl187_1
                      clear hi187_1 hl187_1
                      replace p187 := eq_true p187
                      replace q187 := eq_true q187
                      go_wp2
                      repeat (go_quiet (fail); try go_wp2)
                      go_meet
                      case rel => exact ⟨_, (true), (by first | rfl | (simp; done) | (simp [*]; done)), H', ⟨by have := HJ2.out; have := HK2.out; first | omega | exact Nat.le_refl _⟩, ⟨by (with_reducible repeat (first | refine blk_drewN ?_ _ | refine blk_drew ?_ | refine blk_alloc ?_ _)); exact BK184.out⟩, ⟨by (with_reducible repeat (first | refine blk_drewN ?_ _ | refine blk_drew ?_ | refine blk_alloc ?_ _)); exact BK185.out⟩, ⟨by repeat (first | (with_reducible first | exact HB.out | apply below_alloc | apply pw_below_drewN | apply below_drew1 | refine below_set ?_ GE184.out | refine below_set ?_ GE185.out) | exact HB.out)⟩⟩
                  · rw [if_neg c23] at H
                    exact absurd H (by simp)
                · rw [if_neg c22] at H
                  exact absurd H (by simp)
              case rest =>
                clear HC19
                try clear c1
                try clear p1
                try clear q1
                try clear hx1
                try clear c2
                try clear p2
                try clear c6
                try clear c6b0
                try clear c6b1
                try clear c7
                try clear c7b0
                try clear c7b1
                try clear c8
                try clear c11
                try clear c14
                try clear c17
                try clear c18
                try clear c18b0
                try clear p18
                try clear q18
                try clear hx18
                try clear c20
                try clear c22
                try clear c22b0
                try clear c22b1
                try clear c23
                try clear c23b0
                try clear c24
                try clear c24b0
                try clear c24b1
                try clear c25
                try clear c28
                try clear hcz10_0
                try clear hcz10_1
                try clear hcz10_2
                try clear hcz12_0
                try clear hcz12_1
                try clear hcz12_2
                try clear hcz13_0
                try clear hcz13_1
                try clear hcz13_2
                try clear hcz15_0
                try clear hcz15_1
                try clear hcz15_2
                try clear hcz16_0
                try clear hcz16_1
                try clear hcz16_2
                try clear hcz21_0
                try clear hcz21_1
                try clear hcz21_2
                try clear hcz26_0
                try clear hcz26_1
                try clear hcz26_2
                try clear hcz27_0
                try clear hcz27_1
                try clear hcz27_2
                try clear hcz29_0
                try clear hcz29_1
                try clear hcz29_2
                try clear hcz30_0
                try clear hcz30_1
                try clear hcz30_2
                try clear hcz9_0
                try clear hcz9_1
                try clear hcz9_2
                try clear hfz10_0
                try clear hfz10_1
                try clear hfz10_2
                try clear hfz12_0
                try clear hfz12_1
                try clear hfz12_2
                try clear hfz13_0
                try clear hfz13_1
                try clear hfz13_2
                try clear hfz15_0
                try clear hfz15_1
                try clear hfz15_2
                try clear hfz16_0
                try clear hfz16_1
                try clear hfz16_2
                try clear hfz21_0
                try clear hfz21_1
                try clear hfz21_2
                try clear hfz26_0
                try clear hfz26_1
                try clear hfz26_2
                try clear hfz27_0
                try clear hfz27_1
                try clear hfz27_2
                try clear hfz29_0
                try clear hfz29_1
                try clear hfz29_2
                try clear hfz30_0
                try clear hfz30_1
                try clear hfz30_2
                try clear hfz9_0
                try clear hfz9_1
                try clear hfz9_2
                try clear hx186_0
                try clear hx186_1
                try clear hx187_0
                try clear hx187_1
                try clear hx188_0
                try clear hx188_1
                try clear hx189_0
                try clear hx189_1
                try clear p186
                try clear p187
                try clear p188
                try clear p189
                try clear p2
                try clear q186
                try clear q187
                try clear q188
                try clear q189
                obtain ⟨kq, x64_18, rfl, HA, HJ18, BK184, BK185, HB⟩ := hcut
                cases kq with
                | zero => exact absurd HA.out (by simp [colloquyref20_Same.j2])
                | succ kj18 =>
                  have H := HA.out
                  clear HA
                  simp only [colloquyref20_Same.j2] at H
                  by_cases c31 : x64_18 = true
                  · subst c31
                    have H1 : (some false) = some r := by rw [if_pos rfl] at H; exact H
                    clear H
                    have H := H1
                    clear H1
                    obtain rfl := Option.some.inj H
                    go_wp2
                    repeat (go_quiet (fail); try go_wp2)
                    go_ret
                    exact ⟨by first | rfl | (simp [errW_none, errW_some] <;> rfl) | (simp [*, errW_none, errW_some] <;> rfl), by repeat (first | (with_reducible first | exact HB.out | apply below_alloc | apply pw_below_drewN | apply below_drew1 | refine below_set ?_ GE184.out | refine below_set ?_ GE185.out) | exact HB.out)⟩
                  · replace c31 := Bool.eq_false_iff.mpr c31
                    subst c31
                    have H1 : (colloquyref20_Same.l1 kj18 x5_2 0 a0_0 a0_1 l0_2 a1_0 a1_1 l1_2) = some r := by rw [if_neg (show ¬ (false = true) by decide)] at H; exact H
                    clear H
                    have H := H1
                    clear H1
                    have H' := Aside0.mk H
                    clear H
                    go_wp2
                    repeat (go_quiet (fail); try go_wp2)
                    go_loopg [6] kj18 (fun kq v6 w' => ∃ (x6_4 : Int), v6 = .int .i64 x6_4 ∧ Aside0 (colloquyref20_Same.l1 kq x5_2 x6_4 a0_0 a0_1 l0_2 a1_0 a1_1 l1_2 = some r) ∧ Aside0 (kq ≤ kj18) ∧ Aside0 (w'.heap[gb184]? = some (.cells #[.string a0_0, .string a0_1, (.slice A0_2 l0_2.length c0_2)] 29 (0, 0))) ∧ Aside0 (w'.heap[gb185]? = some (.cells #[.string a1_0, .string a1_1, (.slice A1_2 l1_2.length c1_2)] 29 (0, 0))) ∧ Aside0 (Below w.heap.size w w'))
                    case atStart => exact ⟨(0), (by first | rfl | (simp; done) | (simp [*]; done)), H', ⟨Nat.le_refl _⟩, ⟨by (with_reducible repeat (first | refine blk_drewN ?_ _ | refine blk_drew ?_ | refine blk_alloc ?_ _)); exact BK184.out⟩, ⟨by (with_reducible repeat (first | refine blk_drewN ?_ _ | refine blk_drew ?_ | refine blk_alloc ?_ _)); exact BK185.out⟩, ⟨by repeat (first | (with_reducible first | exact HB.out | apply below_alloc | apply pw_below_drewN | apply below_drew1 | refine below_set ?_ GE184.out | refine below_set ?_ GE185.out) | exact HB.out)⟩⟩
                    case round =>
                      clear H'
                      try clear c1
                      try clear p1
                      try clear q1
                      try clear hx1
                      try clear c2
                      try clear p2
                      try clear c3
                      try clear c6
                      try clear c6b0
                      try clear c6b1
                      try clear c7
                      try clear c7b0
                      try clear c7b1
                      try clear c8
                      try clear c11
                      try clear c14
                      try clear c17
                      try clear c18
                      try clear c18b0
                      try clear p18
                      try clear q18
                      try clear hx18
                      try clear c20
                      try clear c22
                      try clear c22b0
                      try clear c22b1
                      try clear c23
                      try clear c23b0
                      try clear c24
                      try clear c24b0
                      try clear c24b1
                      try clear c25
                      try clear c28
                      try clear c31
                      try clear hcz10_0
                      try clear hcz10_1
                      try clear hcz10_2
                      try clear hcz12_0
                      try clear hcz12_1
                      try clear hcz12_2
                      try clear hcz13_0
                      try clear hcz13_1
                      try clear hcz13_2
                      try clear hcz15_0
                      try clear hcz15_1
                      try clear hcz15_2
                      try clear hcz16_0
                      try clear hcz16_1
                      try clear hcz16_2
                      try clear hcz21_0
                      try clear hcz21_1
                      try clear hcz21_2
                      try clear hcz26_0
                      try clear hcz26_1
                      try clear hcz26_2
                      try clear hcz27_0
                      try clear hcz27_1
                      try clear hcz27_2
                      try clear hcz29_0
                      try clear hcz29_1
                      try clear hcz29_2
                      try clear hcz30_0
                      try clear hcz30_1
                      try clear hcz30_2
                      try clear hcz9_0
                      try clear hcz9_1
                      try clear hcz9_2
                      try clear hfz10_0
                      try clear hfz10_1
                      try clear hfz10_2
                      try clear hfz12_0
                      try clear hfz12_1
                      try clear hfz12_2
                      try clear hfz13_0
                      try clear hfz13_1
                      try clear hfz13_2
                      try clear hfz15_0
                      try clear hfz15_1
                      try clear hfz15_2
                      try clear hfz16_0
                      try clear hfz16_1
                      try clear hfz16_2
                      try clear hfz21_0
                      try clear hfz21_1
                      try clear hfz21_2
                      try clear hfz26_0
                      try clear hfz26_1
                      try clear hfz26_2
                      try clear hfz27_0
                      try clear hfz27_1
                      try clear hfz27_2
                      try clear hfz29_0
                      try clear hfz29_1
                      try clear hfz29_2
                      try clear hfz30_0
                      try clear hfz30_1
                      try clear hfz30_2
                      try clear hfz9_0
                      try clear hfz9_1
                      try clear hfz9_2
                      try clear hx186_0
                      try clear hx186_1
                      try clear hx187_0
                      try clear hx187_1
                      try clear hx188_0
                      try clear hx188_1
                      try clear hx189_0
                      try clear hx189_1
                      try clear p1
                      try clear p18
                      try clear p186
                      try clear p187
                      try clear p188
                      try clear p189
                      try clear p2
                      try clear q1
                      try clear q18
                      try clear q186
                      try clear q187
                      try clear q188
                      try clear q189
                      obtain ⟨x6_4, rfl, HA, HK4, BK184, BK185, HB⟩ := hrel
                      cases gk with
                      | zero => exact absurd HA.out (by simp [colloquyref20_Same.l1])
                      | succ k4 =>
                        have H := HA.out
                        clear HA
                        simp only [colloquyref20_Same.l1] at H
                        by_cases c32 : 0 ≤ x5_2
                        · rw [if_pos c32] at H
                          have c32b0 : decide (0 ≤ x5_2) = true := decide_eq_true c32
                          clear c32
                          by_cases c33 : x5_2 < (l0_2.length : Int)
                          · rw [if_pos c33] at H
                            have c33b0 : decide (x5_2 < (l0_2.length : Int)) = true := decide_eq_true c33
                            clear c33
                            by_cases c34 : x6_4 < (((rd_T53 l0_2 x5_2).f1).length : Int)
                            · rw [if_pos c34] at H
                              have c34b0 : decide (x6_4 < (((rd_T53 l0_2 x5_2).f1).length : Int)) = true := decide_eq_true c34
                              clear c34
                              by_cases c35 : 0 ≤ x6_4
                              · rw [if_pos c35] at H
                                have c35b0 : decide (0 ≤ x6_4) = true := decide_eq_true c35
                                clear c35
                                by_cases c36 : x5_2 < (l1_2.length : Int)
                                · rw [if_pos c36] at H
                                  have c36b0 : decide (x5_2 < (l1_2.length : Int)) = true := decide_eq_true c36
                                  clear c36
                                  by_cases c37 : x6_4 < (((rd_T53 l1_2 x5_2).f1).length : Int)
                                  · rw [if_pos c37] at H
                                    have c37b0 : decide (x6_4 < (((rd_T53 l1_2 x5_2).f1).length : Int)) = true := decide_eq_true c37
                                    clear c37
                                    by_cases c38 : (!((((rd_T49 ((rd_T53 l0_2 x5_2).f1) x6_4).f0).toList) == (((rd_T49 ((rd_T53 l1_2 x5_2).f1) x6_4).f0).toList)) || (!(((rd_T49 ((rd_T53 l0_2 x5_2).f1) x6_4).f1) == ((rd_T49 ((rd_T53 l1_2 x5_2).f1) x6_4).f1)))) = true
                                    · rw [if_pos c38] at H
                                      have c38b0 : (!((((rd_T49 ((rd_T53 l0_2 x5_2).f1) x6_4).f0).toList) == (((rd_T49 ((rd_T53 l1_2 x5_2).f1) x6_4).f0).toList)) || (!(((rd_T49 ((rd_T53 l0_2 x5_2).f1) x6_4).f1) == ((rd_T49 ((rd_T53 l1_2 x5_2).f1) x6_4).f1)))) = true := c38
                                      clear c38
                                      obtain rfl := Option.some.inj H
                                      have hnb39 := NB184_185.out
                                      have hnc39 := NB185_184.out
                                      have hcz40_0 : wr.cell? ⟨gb184, 0, none⟩ = some (.string a0_0) := (blk_cell BK184.out 0).trans rfl
                                      have hcz40_1 : wr.cell? ⟨gb184, 1, none⟩ = some (.string a0_1) := (blk_cell BK184.out 1).trans rfl
                                      have hcz40_2 : wr.cell? ⟨gb184, 2, none⟩ = some (.slice A0_2 l0_2.length c0_2) := (blk_cell BK184.out 2).trans rfl
                                      have hfz40_0 := blk_frozen BK184.out 0
                                      have hfz40_1 := blk_frozen BK184.out 1
                                      have hfz40_2 := blk_frozen BK184.out 2
                                      have p190 : 0 ≤ (x5_2 : Int) := of_decide_eq_true (by first | (with_reducible assumption) | assumption)
                                      have q190 : x5_2 < (l0_2.length : Int) := of_decide_eq_true (by first | (with_reducible assumption) | assumption)
                                      obtain ⟨ad190, A190_1, c190_1, e190, hx190_0, hx190_1, hl190_1, hi190_1⟩ := at_T53 HR0_2.out x5_2 p190 q190
                                      cases e190
                                      replace hx190_0 := (HB.out.cell (World.block_lt_of_cell? w _ hx190_0)).trans hx190_0
                                      replace hx190_1 := (HB.out.cell (World.block_lt_of_cell? w _ hx190_1)).trans hx190_1
                                      have HR190_1 := Aside0.mk hi190_1
                                      have HC190_1 := Aside0.mk hl190_1
                                      clear hi190_1 hl190_1
                                      replace p190 := eq_true p190
                                      replace q190 := eq_true q190
                                      have p191 : 0 ≤ (x5_2 : Int) := of_decide_eq_true (by first | (with_reducible assumption) | assumption)
                                      have q191 : x5_2 < (l0_2.length : Int) := of_decide_eq_true (by first | (with_reducible assumption) | assumption)
                                      obtain ⟨ad191, A191_1, c191_1, e191, hx191_0, hx191_1, hl191_1, hi191_1⟩ := at_T53 HR0_2.out x5_2 p191 q191
                                      obtain rfl : ad190 = ad191 := (by injection e191)
                                      replace hx191_0 := (HB.out.cell (World.block_lt_of_cell? w _ hx191_0)).trans hx191_0
                                      replace hx191_1 := (HB.out.cell (World.block_lt_of_cell? w _ hx191_1)).trans hx191_1
                                      have HR191_1 := Aside0.mk hi191_1
                                      have HC191_1 := Aside0.mk hl191_1
                                      clear hi191_1 hl191_1
                                      replace p191 := eq_true p191
                                      replace q191 := eq_true q191
                                      have ea_ := Option.some.inj (hx190_1.symm.trans hx191_1)
                                      injection ea_ with ea_ en_ ec_
                                      subst ea_
                                      subst ec_
                                      clear en_
                                      have p192 : 0 ≤ (x6_4 : Int) := of_decide_eq_true (by first | (with_reducible assumption) | assumption)
                                      have q192 : x6_4 < (((rd_T53 l0_2 x5_2).f1).length : Int) := of_decide_eq_true (by first | (with_reducible assumption) | assumption)
                                      obtain ⟨ad192, e192, hx192_0, hx192_1⟩ := at_T49 HR191_1.out x6_4 p192 q192
                                      cases e192
                                      replace hx192_0 := (HB.out.cell (World.block_lt_of_cell? w _ hx192_0)).trans hx192_0
                                      replace hx192_1 := (HB.out.cell (World.block_lt_of_cell? w _ hx192_1)).trans hx192_1
                                      replace p192 := eq_true p192
                                      replace q192 := eq_true q192
                                      have hcz41_0 : wr.cell? ⟨gb185, 0, none⟩ = some (.string a1_0) := (blk_cell BK185.out 0).trans rfl
                                      have hcz41_1 : wr.cell? ⟨gb185, 1, none⟩ = some (.string a1_1) := (blk_cell BK185.out 1).trans rfl
                                      have hcz41_2 : wr.cell? ⟨gb185, 2, none⟩ = some (.slice A1_2 l1_2.length c1_2) := (blk_cell BK185.out 2).trans rfl
                                      have hfz41_0 := blk_frozen BK185.out 0
                                      have hfz41_1 := blk_frozen BK185.out 1
                                      have hfz41_2 := blk_frozen BK185.out 2
                                      have p193 : 0 ≤ (x5_2 : Int) := of_decide_eq_true (by first | (with_reducible assumption) | assumption)
                                      have q193 : x5_2 < (l1_2.length : Int) := of_decide_eq_true (by first | (with_reducible assumption) | assumption)
                                      obtain ⟨ad193, A193_1, c193_1, e193, hx193_0, hx193_1, hl193_1, hi193_1⟩ := at_T53 HR1_2.out x5_2 p193 q193
                                      cases e193
                                      replace hx193_0 := (HB.out.cell (World.block_lt_of_cell? w _ hx193_0)).trans hx193_0
                                      replace hx193_1 := (HB.out.cell (World.block_lt_of_cell? w _ hx193_1)).trans hx193_1
                                      have HR193_1 := Aside0.mk hi193_1
                                      have HC193_1 := Aside0.mk hl193_1
                                      clear hi193_1 hl193_1
                                      replace p193 := eq_true p193
                                      replace q193 := eq_true q193
                                      have p194 : 0 ≤ (x6_4 : Int) := of_decide_eq_true (by first | (with_reducible assumption) | assumption)
                                      have q194 : x6_4 < (((rd_T53 l1_2 x5_2).f1).length : Int) := of_decide_eq_true (by first | (with_reducible assumption) | assumption)
                                      obtain ⟨ad194, e194, hx194_0, hx194_1⟩ := at_T49 HR193_1.out x6_4 p194 q194
                                      cases e194
                                      replace hx194_0 := (HB.out.cell (World.block_lt_of_cell? w _ hx194_0)).trans hx194_0
                                      replace hx194_1 := (HB.out.cell (World.block_lt_of_cell? w _ hx194_1)).trans hx194_1
                                      replace p194 := eq_true p194
                                      replace q194 := eq_true q194
                                      go_wp2
                                      repeat (go_quiet (fail); try go_wp2)
                                      go_ret
                                      exact ⟨by first | rfl | (simp [errW_none, errW_some] <;> rfl) | (simp [*, errW_none, errW_some] <;> rfl), by repeat (first | (with_reducible first | exact HB.out | apply below_alloc | apply pw_below_drewN | apply below_drew1 | refine below_set ?_ GE184.out | refine below_set ?_ GE185.out) | exact HB.out)⟩
                                    · rw [if_neg c38] at H
                                      have c38b0 : (!((((rd_T49 ((rd_T53 l0_2 x5_2).f1) x6_4).f0).toList) == (((rd_T49 ((rd_T53 l1_2 x5_2).f1) x6_4).f0).toList)) || (!(((rd_T49 ((rd_T53 l0_2 x5_2).f1) x6_4).f1) == ((rd_T49 ((rd_T53 l1_2 x5_2).f1) x6_4).f1)))) = false := by simpa using c38
                                      clear c38
                                      have H' := Aside0.mk H
                                      clear H
                                      have hnb42 := NB184_185.out
                                      have hnc42 := NB185_184.out
                                      have hcz43_0 : wr.cell? ⟨gb184, 0, none⟩ = some (.string a0_0) := (blk_cell BK184.out 0).trans rfl
                                      have hcz43_1 : wr.cell? ⟨gb184, 1, none⟩ = some (.string a0_1) := (blk_cell BK184.out 1).trans rfl
                                      have hcz43_2 : wr.cell? ⟨gb184, 2, none⟩ = some (.slice A0_2 l0_2.length c0_2) := (blk_cell BK184.out 2).trans rfl
                                      have hfz43_0 := blk_frozen BK184.out 0
                                      have hfz43_1 := blk_frozen BK184.out 1
                                      have hfz43_2 := blk_frozen BK184.out 2
                                      have p190 : 0 ≤ (x5_2 : Int) := of_decide_eq_true (by first | (with_reducible assumption) | assumption)
                                      have q190 : x5_2 < (l0_2.length : Int) := of_decide_eq_true (by first | (with_reducible assumption) | assumption)
                                      obtain ⟨ad190, A190_1, c190_1, e190, hx190_0, hx190_1, hl190_1, hi190_1⟩ := at_T53 HR0_2.out x5_2 p190 q190
                                      cases e190
                                      replace hx190_0 := (HB.out.cell (World.block_lt_of_cell? w _ hx190_0)).trans hx190_0
                                      replace hx190_1 := (HB.out.cell (World.block_lt_of_cell? w _ hx190_1)).trans hx190_1
                                      have HR190_1 := Aside0.mk hi190_1
                                      have HC190_1 := Aside0.mk hl190_1
                                      clear hi190_1 hl190_1
                                      replace p190 := eq_true p190
                                      replace q190 := eq_true q190
                                      have p191 : 0 ≤ (x5_2 : Int) := of_decide_eq_true (by first | (with_reducible assumption) | assumption)
                                      have q191 : x5_2 < (l0_2.length : Int) := of_decide_eq_true (by first | (with_reducible assumption) | assumption)
                                      obtain ⟨ad191, A191_1, c191_1, e191, hx191_0, hx191_1, hl191_1, hi191_1⟩ := at_T53 HR0_2.out x5_2 p191 q191
                                      obtain rfl : ad190 = ad191 := (by injection e191)
                                      replace hx191_0 := (HB.out.cell (World.block_lt_of_cell? w _ hx191_0)).trans hx191_0
                                      replace hx191_1 := (HB.out.cell (World.block_lt_of_cell? w _ hx191_1)).trans hx191_1
                                      have HR191_1 := Aside0.mk hi191_1
                                      have HC191_1 := Aside0.mk hl191_1
                                      clear hi191_1 hl191_1
                                      replace p191 := eq_true p191
                                      replace q191 := eq_true q191
                                      have ea_ := Option.some.inj (hx190_1.symm.trans hx191_1)
                                      injection ea_ with ea_ en_ ec_
                                      subst ea_
                                      subst ec_
                                      clear en_
                                      have p192 : 0 ≤ (x6_4 : Int) := of_decide_eq_true (by first | (with_reducible assumption) | assumption)
                                      have q192 : x6_4 < (((rd_T53 l0_2 x5_2).f1).length : Int) := of_decide_eq_true (by first | (with_reducible assumption) | assumption)
                                      obtain ⟨ad192, e192, hx192_0, hx192_1⟩ := at_T49 HR191_1.out x6_4 p192 q192
                                      cases e192
                                      replace hx192_0 := (HB.out.cell (World.block_lt_of_cell? w _ hx192_0)).trans hx192_0
                                      replace hx192_1 := (HB.out.cell (World.block_lt_of_cell? w _ hx192_1)).trans hx192_1
                                      replace p192 := eq_true p192
                                      replace q192 := eq_true q192
                                      have hcz44_0 : wr.cell? ⟨gb185, 0, none⟩ = some (.string a1_0) := (blk_cell BK185.out 0).trans rfl
                                      have hcz44_1 : wr.cell? ⟨gb185, 1, none⟩ = some (.string a1_1) := (blk_cell BK185.out 1).trans rfl
                                      have hcz44_2 : wr.cell? ⟨gb185, 2, none⟩ = some (.slice A1_2 l1_2.length c1_2) := (blk_cell BK185.out 2).trans rfl
                                      have hfz44_0 := blk_frozen BK185.out 0
                                      have hfz44_1 := blk_frozen BK185.out 1
                                      have hfz44_2 := blk_frozen BK185.out 2
                                      have p193 : 0 ≤ (x5_2 : Int) := of_decide_eq_true (by first | (with_reducible assumption) | assumption)
                                      have q193 : x5_2 < (l1_2.length : Int) := of_decide_eq_true (by first | (with_reducible assumption) | assumption)
                                      obtain ⟨ad193, A193_1, c193_1, e193, hx193_0, hx193_1, hl193_1, hi193_1⟩ := at_T53 HR1_2.out x5_2 p193 q193
                                      cases e193
                                      replace hx193_0 := (HB.out.cell (World.block_lt_of_cell? w _ hx193_0)).trans hx193_0
                                      replace hx193_1 := (HB.out.cell (World.block_lt_of_cell? w _ hx193_1)).trans hx193_1
                                      have HR193_1 := Aside0.mk hi193_1
                                      have HC193_1 := Aside0.mk hl193_1
                                      clear hi193_1 hl193_1
                                      replace p193 := eq_true p193
                                      replace q193 := eq_true q193
                                      have p194 : 0 ≤ (x6_4 : Int) := of_decide_eq_true (by first | (with_reducible assumption) | assumption)
                                      have q194 : x6_4 < (((rd_T53 l1_2 x5_2).f1).length : Int) := of_decide_eq_true (by first | (with_reducible assumption) | assumption)
                                      obtain ⟨ad194, e194, hx194_0, hx194_1⟩ := at_T49 HR193_1.out x6_4 p194 q194
                                      cases e194
                                      replace hx194_0 := (HB.out.cell (World.block_lt_of_cell? w _ hx194_0)).trans hx194_0
                                      replace hx194_1 := (HB.out.cell (World.block_lt_of_cell? w _ hx194_1)).trans hx194_1
                                      replace p194 := eq_true p194
                                      replace q194 := eq_true q194
                                      go_wp2
                                      repeat (go_quiet (fail); try go_wp2)
                                      go_roundg k4
                                      case measure => have := HJ2.out; have := HK2.out; have := HJ18.out; have := HK4.out; omega
                                      case rel => exact ⟨(wrap64 (x6_4 + 1)), (by first | rfl | (simp; done) | (simp [*]; done)), H', ⟨by have := HJ2.out; have := HK2.out; have := HJ18.out; have := HK4.out; omega⟩, ⟨by (with_reducible repeat (first | refine blk_drewN ?_ _ | refine blk_drew ?_ | refine blk_alloc ?_ _)); exact BK184.out⟩, ⟨by (with_reducible repeat (first | refine blk_drewN ?_ _ | refine blk_drew ?_ | refine blk_alloc ?_ _)); exact BK185.out⟩, ⟨by repeat (first | (with_reducible first | exact HB.out | apply below_alloc | apply pw_below_drewN | apply below_drew1 | refine below_set ?_ GE184.out | refine below_set ?_ GE185.out) | exact HB.out)⟩⟩
                                  · rw [if_neg c37] at H
                                    exact absurd H (by simp)
                                · rw [if_neg c36] at H
                                  exact absurd H (by simp)
                              · rw [if_neg c35] at H
                                exact absurd H (by simp)
                            · rw [if_neg c34] at H
                              have c34b0 : decide (x6_4 < (((rd_T53 l0_2 x5_2).f1).length : Int)) = false := decide_eq_false c34
                              clear c34
                              have H' := Aside0.mk H
                              clear H
                              have hnb45 := NB184_185.out
                              have hnc45 := NB185_184.out
                              have hcz46_0 : wr.cell? ⟨gb184, 0, none⟩ = some (.string a0_0) := (blk_cell BK184.out 0).trans rfl
                              have hcz46_1 : wr.cell? ⟨gb184, 1, none⟩ = some (.string a0_1) := (blk_cell BK184.out 1).trans rfl
                              have hcz46_2 : wr.cell? ⟨gb184, 2, none⟩ = some (.slice A0_2 l0_2.length c0_2) := (blk_cell BK184.out 2).trans rfl
                              have hfz46_0 := blk_frozen BK184.out 0
                              have hfz46_1 := blk_frozen BK184.out 1
                              have hfz46_2 := blk_frozen BK184.out 2
                              have p190 : 0 ≤ (x5_2 : Int) := of_decide_eq_true (by first | (with_reducible assumption) | assumption)
                              have q190 : x5_2 < (l0_2.length : Int) := of_decide_eq_true (by first | (with_reducible assumption) | assumption)
                              obtain ⟨ad190, A190_1, c190_1, e190, hx190_0, hx190_1, hl190_1, hi190_1⟩ := at_T53 HR0_2.out x5_2 p190 q190
                              cases e190
                              replace hx190_0 := (HB.out.cell (World.block_lt_of_cell? w _ hx190_0)).trans hx190_0
                              replace hx190_1 := (HB.out.cell (World.block_lt_of_cell? w _ hx190_1)).trans hx190_1
                              have HR190_1 := Aside0.mk hi190_1
                              have HC190_1 := Aside0.mk hl190_1
                              clear hi190_1 hl190_1
                              replace p190 := eq_true p190
                              replace q190 := eq_true q190
                              go_wp2
                              repeat (go_quiet (fail); try go_wp2)
                              go_roundg k4
                              case measure => have := HJ2.out; have := HK2.out; have := HJ18.out; have := HK4.out; omega
                              case rel => exact ⟨(wrap64 (x5_2 + 1)), (by first | rfl | (simp; done) | (simp [*]; done)), H', ⟨by have := HJ2.out; have := HK2.out; have := HJ18.out; have := HK4.out; omega⟩, ⟨by (with_reducible repeat (first | refine blk_drewN ?_ _ | refine blk_drew ?_ | refine blk_alloc ?_ _)); exact BK184.out⟩, ⟨by (with_reducible repeat (first | refine blk_drewN ?_ _ | refine blk_drew ?_ | refine blk_alloc ?_ _)); exact BK185.out⟩, ⟨by repeat (first | (with_reducible first | exact HB.out | apply below_alloc | apply pw_below_drewN | apply below_drew1 | refine below_set ?_ GE184.out | refine below_set ?_ GE185.out) | exact HB.out)⟩⟩
                          · rw [if_neg c33] at H
                            exact absurd H (by simp)
                        · rw [if_neg c32] at H
                          exact absurd H (by simp)
            · rw [if_neg c18] at H
              have c18b0 : decide (x5_2 < (l0_2.length : Int)) = false := decide_eq_false c18
              clear c18
              obtain rfl := Option.some.inj H
              have hnb47 := NB184_185.out
              have hnc47 := NB185_184.out
              have hcz48_0 : wr.cell? ⟨gb184, 0, none⟩ = some (.string a0_0) := (blk_cell BK184.out 0).trans rfl
              have hcz48_1 : wr.cell? ⟨gb184, 1, none⟩ = some (.string a0_1) := (blk_cell BK184.out 1).trans rfl
              have hcz48_2 : wr.cell? ⟨gb184, 2, none⟩ = some (.slice A0_2 l0_2.length c0_2) := (blk_cell BK184.out 2).trans rfl
              have hfz48_0 := blk_frozen BK184.out 0
              have hfz48_1 := blk_frozen BK184.out 1
              have hfz48_2 := blk_frozen BK184.out 2
              go_wp2
              repeat (go_quiet (fail); try go_wp2)
              go_ret
              exact ⟨by first | rfl | (simp [errW_none, errW_some] <;> rfl) | (simp [*, errW_none, errW_some] <;> rfl), by repeat (first | (with_reducible first | exact HB.out | apply below_alloc | apply pw_below_drewN | apply below_drew1 | refine below_set ?_ GE184.out | refine below_set ?_ GE185.out) | exact HB.out)⟩
end
section
theorem of_l0 (su bo : ByteArray) (ps : List PP) (hs : szP ps) : ∀ (suf pre : List PP), pre ++ suf = ps → Ev (fun k => colloquylaw20_of.l0 k ps (ps.length : Int) (pre.length : Int) su bo (pre.map cv)) (su, bo, ps.map cv)
  | [], pre, h => by
    rw [List.append_nil] at h
    subst h
    exact Ev.step (f := fun _ => some (su, bo, pre.map cv)) (fun k => by rw [colloquylaw20_of.l0, if_neg (by omega)]) (Ev.now _)
  | p :: suf, pre, h => by
    subst h
    have hl : pre.length + 1 ≤ 3518437208883 := by have h_ := hs.1; simp at h_; omega
    have ih := of_l0 su bo (pre ++ p :: suf) hs suf (pre ++ [p]) (by rw [← app1])
    refine Ev.step (fun k => ?_) ih
    rw [colloquylaw20_of.l0, if_pos (ltA _ _ _), if_pos (by omega), if_pos (ltA _ _ _), if_pos (by rw [List.length_map]; omega), rdP, wr1 pre p (by omega), List.map_append]
    rfl
theorem of_ev (su bo : ByteArray) (ps : List PP) (hs : szP ps) : Ev (fun k => colloquylaw20_of.f k su bo ps) (su, bo, ps.map cv) := of_l0 su bo ps hs ps [] rfl
theorem same_l1 (su bo : ByteArray) (pre suf : List PP) (p : PP) (hl : pre.length < 9223372036854775807) (hb : Ev (fun k => colloquyref20_Same.l0 k ((pre ++ [p]).length : Int) su bo ((pre ++ p :: suf).map cv) su bo ((pre ++ p :: suf).map cv)) true) : ∀ (rsuf rpre : List RS), rpre ++ rsuf = p.f1 → p.f1.length ≤ 9223372036854775807 → Ev (fun k => colloquyref20_Same.l1 k (pre.length : Int) (rpre.length : Int) su bo ((pre ++ p :: suf).map cv) su bo ((pre ++ p :: suf).map cv)) true
  | [], rpre, h, _ => by
    rw [List.append_nil] at h
    refine Ev.step (fun k => ?_) hb
    rw [colloquyref20_Same.l1, if_pos (by omega), if_pos (ltQ _ _ _), rdQ, if_neg (by show ¬ (rpre.length : Int) < (p.f1.length : Int); rw [h]; omega), wr1 pre p hl]
  | r :: rs, rpre, h, hm => by
    have ih := same_l1 su bo pre suf p hl hb rs (rpre ++ [r]) (by rw [← app1]; exact h) hm
    have hlt : (rpre.length : Int) < ((cv p).f1.length : Int) := by show (rpre.length : Int) < (p.f1.length : Int); rw [← h]; exact ltA _ _ _
    have hlt2 : rpre.length < 9223372036854775807 := by have : (rpre.length : Int) < (p.f1.length : Int) := hlt; omega
    refine Ev.step (fun k => ?_) ih
    rw [colloquyref20_Same.l1, if_pos (by omega), if_pos (ltQ _ _ _), rdQ, if_pos hlt, if_pos (by omega), if_pos (ltQ _ _ _), if_pos hlt, if_neg (by simp), wr1 rpre r hlt2]
theorem same_l0 (su bo : ByteArray) (ps : List PP) (hs : szP ps) : ∀ suf pre, pre ++ suf = ps → Ev (fun k => colloquyref20_Same.l0 k (pre.length : Int) su bo (ps.map cv) su bo (ps.map cv)) true
  | [], pre, h => by
    subst h
    exact Ev.step (f := fun _ => some true) (fun k => by rw [colloquyref20_Same.l0, if_neg (nltQ _)]) (Ev.now _)
  | p :: suf, pre, h => by
    have ih := same_l0 su bo ps hs suf (pre ++ [p]) (by rw [← app1]; exact h)
    subst h
    have hl : pre.length < 9223372036854775807 := by have h_ := hs.1; simp at h_; omega
    have h1 := same_l1 su bo pre suf p hl ih p.f1 [] rfl (by have := hs.2 p (by simp); omega)
    refine Ev.step (f := fun k => colloquyref20_Same.j2 k (pre.length : Int) false su bo ((pre ++ p :: suf).map cv) su bo ((pre ++ p :: suf).map cv)) (fun k => ?_) (Ev.step (fun k => ?_) h1)
    · rw [colloquyref20_Same.l0, if_pos (ltQ _ _ _), if_pos (by omega), if_pos (ltQ _ _ _), rdQ, if_pos rfl]
      congr 1
      exact bne_self_eq_false _
    · rw [colloquyref20_Same.j2, if_neg (by decide)]
      rfl
theorem same_ev (su bo : ByteArray) (ps : List PP) (hs : szP ps) : Ev (fun k => colloquyref20_Same.f k su bo (ps.map cv) su bo (ps.map cv)) true := by
  refine Ev.congr (f := fun k => colloquyref20_Same.j0 k false su bo (ps.map cv) su bo (ps.map cv)) (fun k => ?_) (Ev.step (fun k => ?_) (same_l0 su bo ps hs ps [] rfl))
  · rw [colloquyref20_Same.f, if_pos rfl, if_pos rfl]
    congr 1
    exact bne_self_eq_false _
  · rw [colloquyref20_Same.j0, if_neg (by decide)]
    rfl
section
variable {w0 w w1 : World} {R : Chunk} {A A2 : Option Addr} {c c2 : Nat} {su bo : ByteArray} {ps : List PP} {S : Nat → Prop}
theorem right_calls (A : Option Addr) (c : Nat) (su bo : ByteArray) (ps : List PP) (w : World) (hz : szP ps) (hr : Kd.C KP w A ps.length ps) (hc : ps.length ≤ c) : Calls Tryd.prog 14 #[.agg #[.string su, .string bo, .slice A ps.length c]] w fun e w' => e = .returned (.bool (rightS su bo ps)) ∧ Below w.heap.size w w' := by
  obtain ⟨k, hk⟩ := right_ev su bo ps hz
  exact sum_Right.calls k su bo A c ps _ w hr hc (hk k (Nat.le_refl _))
theorem few_calls (A : Option Addr) (c : Nat) (su bo : ByteArray) (ps : List PP) (w : World) (hz : szP ps) (hr : Kd.C KP w A ps.length ps) (hc : ps.length ≤ c) : Calls Tryd.prog 10 #[.agg #[.string su, .string bo, .slice A ps.length c]] w fun e w' => e = .returned (.bool (decide ((ps.length : Int) + sumL ps ≤ 2000))) ∧ Below w.heap.size w w' := by
  obtain ⟨k, hk⟩ := few_ev su bo ps hz
  exact colloquylaw20_few.calls k su bo A c ps _ w hr hc (hk k (Nat.le_refl _))
theorem same_calls (A A2 : Option Addr) (c c2 : Nat) (su bo : ByteArray) (ps : List PP) (w : World) (hz : szP ps) (hr : Kd.C KQ w A (ps.map cv).length (ps.map cv)) (hc : (ps.map cv).length ≤ c) (hr2 : Kd.C KQ w A2 (ps.map cv).length (ps.map cv)) (hc2 : (ps.map cv).length ≤ c2) : Calls Tryd.prog 20 #[.agg #[.string su, .string bo, .slice A (ps.map cv).length c], .agg #[.string su, .string bo, .slice A2 (ps.map cv).length c2]] w fun e w' => e = .returned (.bool true) ∧ Below w.heap.size w w' := by
  obtain ⟨k, hk⟩ := same_ev su bo ps hz
  exact colloquyref20_Same.calls k su bo A c (ps.map cv) su bo A2 c2 (ps.map cv) _ w hr hc hr2 hc2 (hk k (Nat.le_refl _))
theorem of_frz (w0 w w1 : World) (R : Chunk) (S : Nat → Prop) (A : Option Addr) (c : Nat) (su bo : ByteArray) (ps : List PP) (hz : szP ps) (hb1 : Below w0.heap.size w0 w1) (hF : Kd.F KP w1 (okF w0 S) A ps.length ps) (hc : ps.length ≤ c) (HO : Own w0 w [R, Chunk.frz w1 S]) : Calls Tryd.prog 11 #[.agg #[.string su, .string bo, .slice A ps.length c]] w fun e w' => ∃ (A2 : Option Addr) (c2 : Nat) (w2 : World) (S2 : Nat → Prop), e = .returned (.agg #[.string su, .string bo, .slice A2 (ps.map cv).length c2]) ∧ Own w0 w' [R, Chunk.frz w2 S2] ∧ Below w0.heap.size w0 w2 ∧ Kd.F KP w2 (okF w0 S2) A ps.length ps ∧ Kd.F KQ w2 (okF w0 S2) A2 (ps.map cv).length (ps.map cv) ∧ (ps.map cv).length ≤ c2 := by
  obtain ⟨k, hk⟩ := of_ev su bo ps hz
  have hF2 := frz_F HO (i := 1) rfl hb1 hF
  refine (colloquylaw20_of.calls k su bo _ A c ps _ _ _ w (Kd.V_mk hc hF2) (hk k (Nat.le_refl _))).mono ?_
  rintro e w' ⟨v, rfl, hN, hb⟩
  obtain ⟨A2, c2, rfl⟩ := Kd.N_slice hN
  exact ⟨A2, c2, w', _, rfl, frz_grow HO 1 rfl hb, (HO.after hb).below, Kd.F_mono (Kd.F_below hF2 hb) (fun k hk => hk.elim .inl fun h => .inr (.inl h)), Kd.F_mono (Kd.F_bound (Kd.N_F hN)) (fun k hk => hk.1.elim (fun h => h.elim .inl fun h => .inr (.inl h)) fun h => .inr (.inr ⟨h, hk.2⟩)), (Kd.N_reads' hN).2.1⟩
abbrev firstL : List PP := [⟨⟨#[103]⟩, [⟨⟨#[116]⟩, 1⟩]⟩]
theorem first_frz (w0 w : World) (R : Chunk) (HO : Own w0 w [R]) : Calls Tryd.prog 21 #[] w fun e w' => ∃ (A2 : Option Addr) (c2 : Nat) (w1 : World) (S : Nat → Prop), e = .returned (.agg #[.string ⟨#[115]⟩, .string ⟨#[98]⟩, .slice A2 firstL.length c2]) ∧ Own w0 w' [Chunk.frz w1 S, R] ∧ Below w0.heap.size w0 w1 ∧ Kd.F KP w1 (okF w0 S) A2 firstL.length firstL ∧ firstL.length ≤ c2 := by
  refine (colloquylaw20_first.calls _ _ _ w rfl).mono ?_
  rintro e w' ⟨v, rfl, hN, hb⟩
  obtain ⟨A2, c2, rfl⟩ := Kd.N_slice hN
  exact ⟨A2, c2, w', _, rfl, frz_new HO hb, (HO.after hb).below, Kd.F_mono (Kd.F_bound (Kd.N_F hN)) (fun k hk => .inr ⟨hk.1, hk.2⟩), (Kd.N_reads' hN).2.1⟩
theorem parse_frz (w0 w : World) (R : Chunk) (s : ByteArray) (hs : s.size ≤ 100000000) (hL : LaidW w0) (HO : Own w0 w [R]) : Calls Tryd.prog 18 #[.string s] w fun e w' => ∃ (A2 : Option Addr) (c2 : Nat) (w1 : World) (S : Nat → Prop), e = .returned (.tuple #[.agg #[.string (outS s).1, .string (outS s).2.1, .slice A2 (outS s).2.2.length c2], .int .i64 (codeP s), .int .i64 (parseP s).2]) ∧ Own w0 w' [Chunk.frz w1 S, R] ∧ Below w0.heap.size w0 w1 ∧ Kd.F KP w1 (okF w0 S) A2 (outS s).2.2.length (outS s).2.2 ∧ (outS s).2.2.length ≤ c2 := by
  refine (parse_calls s w hs (hL.own HO)).mono ?_
  rintro e w' ⟨A2, c2, S, rfl, ho⟩
  have h1 := HO.fresh ho
  obtain ⟨h2, h3, h4, h5⟩ := frz_view h1 0 rfl
  exact ⟨A2, c2, w', S, rfl, h2, h5, h3, h4⟩
end
section
theorem told_yes {s su bo : ByteArray} {l : List PP} (h : parseP s = (some (su, bo, l), 0)) : outS s = (su, bo, l) ∧ codeP s = 0 ∧ (parseP s).2 = 0 := by
  unfold outS codeP
  rw [h]
  exact ⟨rfl, rfl, rfl⟩
theorem told_no {s : ByteArray} {i : Int} (h : parseP s = (none, i)) : outS s = (eB, eB, []) ∧ codeP s = 80 ∧ (parseP s).2 = i := by
  unfold outS codeP
  rw [h]
  exact ⟨rfl, rfl, rfl⟩
theorem parse_told (w0 w : World) (R : Chunk) (s su bo : ByteArray) (l : List PP) (code at_ : Int) (h : outS s = (su, bo, l) ∧ codeP s = code ∧ (parseP s).2 = at_) (hs : s.size ≤ 100000000) (hL : LaidW w0) (HO : Own w0 w [R]) : Calls Tryd.prog 18 #[.string s] w fun e w' => ∃ (A2 : Option Addr) (c2 : Nat) (w1 : World) (S : Nat → Prop), e = .returned (.tuple #[.agg #[.string su, .string bo, .slice A2 l.length c2], .int .i64 code, .int .i64 at_]) ∧ Own w0 w' [Chunk.frz w1 S, R] ∧ Below w0.heap.size w0 w1 ∧ Kd.F KP w1 (okF w0 S) A2 l.length l ∧ l.length ≤ c2 := by
  have := parse_frz w0 w R s hs hL HO
  rw [h.1, h.2.1, h.2.2] at this
  exact this
end
theorem firstL_sz : szP firstL := ⟨by decide, by decide⟩
theorem dec_one : Lib.decDigits 1 = [49] := by rw [Lib.decDigits, dif_pos (by decide)]; rfl
abbrev sB : ByteArray := ⟨#[115]⟩
abbrev bB : ByteArray := ⟨#[98]⟩
abbrev oneB : ByteArray := ⟨#[84, 101, 115, 116, 32, 114, 117, 110, 32, 111, 102, 32, 115, 10, 66, 111, 97, 114, 100, 32, 98, 10, 103, 114, 111, 117, 112, 32, 103, 10, 80, 65, 83, 83, 58, 32, 116, 10, 35, 32, 80, 65, 83, 83, 32, 49, 10, 35, 32, 101, 110, 100, 10]⟩
theorem right_one : rightS sB bB firstL = true := by decide +kernel
theorem tots_one : totsL firstL 8 = [(⟨#[35, 32]⟩ : ByteArray) ++ vtB 1 ++ (⟨#[32]⟩ : ByteArray) ++ itB (totL firstL 1)] := rfl
theorem it_one : itB (totL firstL 1) = ⟨#[49]⟩ := by
  show itB 1 = _
  unfold itB Lib.itoa
  rw [if_neg (by decide), show (1 : Int).toNat = 1 from rfl, dec_one]
theorem text_one : textL sB bB firstL = oneB := by
  unfold textL linesL
  rw [if_pos right_one, tots_one, it_one]
  decide +kernel
end
section
theorem bt_L (s : ByteArray) (i : Int) (h0 : 0 ≤ i) (h1 : i < s.size) : ∃ b, s.data.toList[i.toNat]? = some b ∧ bt s i = (b.toNat : Int) := by
  have hlt : i.toNat < s.size := by omega
  refine ⟨s[i.toNat]'hlt, ?_, (bt_at s i hlt).symm⟩
  rw [Array.getElem?_toList]
  exact Array.getElem?_eq_getElem hlt
def lfN (s : ByteArray) (n : Nat) : Int := (((s.data.toList.take n).countP (· == 10) : Nat) : Int)
theorem lf_zero (s : ByteArray) : lfN s (0 : Int).toNat = 0 := by unfold lfN; simp
theorem lf_step (s : ByteArray) (i : Int) (h0 : 0 ≤ i) (h1 : i < s.size) : ∃ b, bt s i = ((b : UInt8).toNat : Int) ∧ lfN s (i + 1).toNat = lfN s i.toNat + (if b = 10 then 1 else 0) := by
  obtain ⟨b, hb, hv⟩ := bt_L s i h0 h1
  refine ⟨b, hv, ?_⟩
  unfold lfN
  rw [show (i + 1).toNat = i.toNat + 1 by omega, List.take_add_one, hb, List.countP_append]
  by_cases h : b = 10
  · rw [if_pos h, h]; simp
  · rw [if_neg h]; simp [h]
theorem lf_yes (s : ByteArray) (i : Int) (h0 : 0 ≤ i) (h1 : i < s.size) (h : bt s i = 10) : lfN s (i + 1).toNat = lfN s i.toNat + 1 := by
  obtain ⟨b, hb, e⟩ := lf_step s i h0 h1
  rw [e, if_pos (UInt8.toNat_inj.1 (show b.toNat = 10 by omega))]
theorem lf_no (s : ByteArray) (i : Int) (h0 : 0 ≤ i) (h1 : i < s.size) (h : ¬ bt s i = 10) : lfN s (i + 1).toNat = lfN s i.toNat := by
  obtain ⟨b, hb, e⟩ := lf_step s i h0 h1
  rw [e, if_neg (fun e2 => h (by rw [hb, e2]; rfl)), Int.add_zero]
theorem cnt10 {l : List UInt8} (h : (10 : UInt8) ∉ l) : l.countP (· == 10) = 0 := by
  rw [List.countP_eq_zero]
  intro a ha e
  have := eq_of_beq e
  subst this
  exact h ha
theorem cat_cnt : ∀ ls : List ByteArray, (∀ x ∈ ls, (10 : UInt8) ∉ x.data.toList) → (catL ls).data.toList.countP (· == 10) = ls.length
  | [], _ => rfl
  | x :: ls, h => by
    show ((x ++ lfB) ++ catL ls).data.toList.countP (· == 10) = _
    rw [dcat, dcat, List.countP_append, List.countP_append, cnt10 (h x (List.mem_cons_self ..)), cat_cnt ls fun y hy => h y (List.mem_cons_of_mem _ hy)]
    show 0 + 1 + ls.length = ls.length + 1
    omega
theorem lf_all (ls : List ByteArray) (h : ∀ x ∈ ls, (10 : UInt8) ∉ x.data.toList) (n : Nat) (hn : (catL ls).size ≤ n) : lfN (catL ls) n = ls.length := by
  unfold lfN
  rw [List.take_of_length_le (by rw [Array.length_toList]; exact hn), cat_cnt ls h]
section
variable {su bo : ByteArray} {ps : List PP}
theorem text_yes (h : rightS su bo ps = true) : textL su bo ps = catL (linesL su bo ps) := by unfold textL; rw [if_pos h]
theorem lines_no10 : ∀ x ∈ linesL su bo ps, (10 : UInt8) ∉ x.data.toList := fun x hx => plain_no10 (plain_lines su bo ps x hx)
theorem text_lf (h : rightS su bo ps = true) (n : Int) (hn : ((textL su bo ps).size : Int) ≤ n) : lfN (textL su bo ps) n.toNat = (linesL su bo ps).length := by
  rw [text_yes h] at hn ⊢
  exact lf_all _ lines_no10 _ (by omega)
theorem text_big (h : rightS su bo ps = true) : 3 ≤ (textL su bo ps).size := by
  rw [text_yes h]
  have h1 := cat_cnt _ (lines_no10 (su := su) (bo := bo) (ps := ps))
  have h2 := List.countP_le_length (p := (· == (10 : UInt8))) (l := (catL (linesL su bo ps)).data.toList)
  have h3 := (lines_len su bo ps).1
  rw [h1] at h2
  have h4 : (catL (linesL su bo ps)).data.toList.length = (catL (linesL su bo ps)).size := Array.length_toList
  omega
end
end
section
theorem pl_steps (ys : List ByteArray) (R : ByteArray × ByteArray × List PP) : ∀ (xs : List ByteArray) (i : Int) (su bo : ByteArray) (ps : List PP) (b : Bool) (TL : List ByteArray), (b = false → 2 ≤ i) → 0 ≤ i → parsL (xs ++ ys) i su bo ps b TL = (some R, 0) →
    ∃ su' bo' ps' b' TL', (b' = false → 2 ≤ i + xs.length) ∧ ∀ zs, parsL (xs ++ zs) i su bo ps b TL = parsL zs (i + xs.length) su' bo' ps' b' TL'
  | [], i, su, bo, ps, b, TL, hb, hi, _ => ⟨su, bo, ps, b, TL, by simpa using hb, fun zs => by simp⟩
  | r :: xs, i, su, bo, ps, b, TL, hb, hi, h => by
    have go : ∀ (su1 bo1 : ByteArray) (ps1 : List PP) (b1 : Bool) (TL1 : List ByteArray), (b1 = false → 2 ≤ i + 1) → (∀ zs, parsL (r :: (xs ++ zs)) i su bo ps b TL = parsL (xs ++ zs) (i + 1) su1 bo1 ps1 b1 TL1) →
        ∃ su' bo' ps' b' TL', (b' = false → 2 ≤ i + (r :: xs).length) ∧ ∀ zs, parsL (r :: xs ++ zs) i su bo ps b TL = parsL zs (i + (r :: xs).length) su' bo' ps' b' TL' := by
      intro su1 bo1 ps1 b1 TL1 hb1 hz
      obtain ⟨su', bo', ps', b', TL', h1, h2⟩ := pl_steps ys R xs (i + 1) su1 bo1 ps1 b1 TL1 hb1 (by omega) ((hz ys).symm.trans h)
      have e : i + ((r :: xs).length : Int) = i + 1 + (xs.length : Int) := by rw [List.length_cons]; omega
      refine ⟨su', bo', ps', b', TL', by rw [e]; exact h1, fun zs => ?_⟩
      rw [e]
      exact (hz zs).trans (h2 zs)
    have h' : parsL (r :: (xs ++ ys)) i su bo ps b TL = (some R, 0) := h
    by_cases hok : hsB r lfB = true
    · by_cases h0 : i = 0
      · by_cases hn : nmO (tsB r lfB) w1B = true
        · exact go _ _ _ _ _ (fun e => by have := hb e; omega) fun zs => pl_0 hok h0 hn
        · rw [pl_0x hok h0 (Bool.eq_false_iff.2 hn)] at h'; cases h'
      · by_cases h1 : i = 1
        · by_cases hn : nmO (tsB r lfB) w2B = true
          · exact go _ _ _ _ _ (fun e => by have := hb e; omega) fun zs => pl_1 hok h1 hn
          · rw [pl_1x hok h1 (Bool.eq_false_iff.2 hn)] at h'; cases h'
        · by_cases hc : (b && !(hpB (tsB r lfB) hashB)) = true
          · by_cases hn : lineO ps (tsB r lfB) = true
            · exact go _ _ _ _ _ (fun e => by have := hb e; omega) fun zs => pl_l hok h0 h1 hc hn
            · rw [pl_lx hok h0 h1 hc (Bool.eq_false_iff.2 hn)] at h'; cases h'
          · by_cases hn : 0 < ((if b = true then (linesL su bo ps).drop i.toNat else TL).length : Int) ∧ (if b = true then (linesL su bo ps).drop i.toNat else TL).getD 0 eB = tsB r lfB
            · exact go _ _ _ _ _ (fun _ => by omega) fun zs => pl_t _ rfl hok h0 h1 (Bool.eq_false_iff.2 hc) hn
            · rw [pl_tx _ rfl hok h0 h1 (Bool.eq_false_iff.2 hc) hn] at h'; cases h'
    · rw [pl_bad (Bool.eq_false_iff.2 hok)] at h'; cases h'
theorem pl_over {r : ByteArray} {rs : List ByteArray} {i : Int} {su bo : ByteArray} {ps : List PP} (hi : 2 ≤ i) : parsL (r :: rs) i su bo ps false [] = (none, i) := by
  by_cases hok : hsB r lfB = true
  · exact pl_tx [] rfl hok (by omega) (by omega) rfl (by simp)
  · exact pl_bad (Bool.eq_false_iff.2 hok)
theorem pl_end {i : Int} {su bo : ByteArray} {ps : List PP} {b : Bool} {TL : List ByteArray} : parsL [] i su bo ps b TL = (if (b || decide (0 < (TL.length : Int))) = true then (none, i) else (some (su, bo, ps), 0)) := by rw [parsL]
section
variable {su bo : ByteArray} {ps : List PP}
abbrev endL (su bo : ByteArray) (ps : List PP) : List ByteArray := (linesL su bo ps).map (· ++ lfB)
theorem parse_lines (h : rightS su bo ps = true) : parsL (endL su bo ps) 0 eB eB [] true [] = (some (su, bo, ps), 0) := by
  have := parse_text su bo ps h
  rw [text_yes h] at this
  unfold parseP at this
  rw [allL_cat _ lines_no10] at this
  exact this
theorem more_none (h : rightS su bo ps = true) (r : ByteArray) (rs : List ByteArray) : parsL (endL su bo ps ++ r :: rs) 0 eB eB [] true [] = (none, ((linesL su bo ps).length : Int)) := by
  obtain ⟨su', bo', ps', b', TL', hb, hz⟩ := pl_steps [] (su, bo, ps) (endL su bo ps) 0 eB eB [] true [] (fun e => by cases e) (by decide) (by rw [List.append_nil]; exact parse_lines h)
  have h1 := hz []
  rw [List.append_nil, parse_lines h, pl_end] at h1
  rw [hz (r :: rs)]
  have hl : (0 : Int) + ((endL su bo ps).length : Int) = ((linesL su bo ps).length : Int) := by rw [List.length_map]; omega
  have hll := (lines_len su bo ps).1
  rw [hl] at hb h1 ⊢
  split at h1
  · cases h1
  · rename_i hc
    have hc1 : b' = false := by cases b' <;> simp at hc ⊢
    have hc2 : TL' = [] := by
      cases TL' with
      | nil => rfl
      | cons t ts => rw [hc1] at hc; simp at hc
    rw [hc1, hc2]
    exact pl_over (by omega)
theorem less_none (h : rightS su bo ps = true) (m : Nat) (hm : m < (linesL su bo ps).length) (rem : ByteArray) (hr : hsB rem lfB = false) : parsL ((endL su bo ps).take m) 0 eB eB [] true [] = (none, (m : Int)) ∧ parsL ((endL su bo ps).take m ++ [rem]) 0 eB eB [] true [] = (none, (m : Int)) := by
  have hl : (endL su bo ps).length = (linesL su bo ps).length := List.length_map ..
  obtain ⟨su', bo', ps', b', TL', hb, hz⟩ := pl_steps ((endL su bo ps).drop m) (su, bo, ps) ((endL su bo ps).take m) 0 eB eB [] true [] (fun e => by cases e) (by decide) (by rw [List.take_append_drop]; exact parse_lines h)
  have hlen : (0 : Int) + (((endL su bo ps).take m).length : Int) = (m : Int) := by rw [List.length_take]; omega
  rw [hlen] at hb hz
  refine ⟨?_, by rw [hz]; exact pl_bad hr⟩
  have h0 := hz []
  rw [List.append_nil] at h0
  rw [h0, pl_end]
  split
  · rfl
  · rename_i hc
    exfalso
    have hc1 : b' = false := by cases b' <;> simp at hc ⊢
    have hc2 : TL' = [] := by
      cases TL' with
      | nil => rfl
      | cons t ts => rw [hc1] at hc; simp at hc
    have h1 := hz ((endL su bo ps).drop m)
    rw [List.take_append_drop, parse_lines h, hc1, hc2, List.drop_eq_getElem_cons (by omega), pl_over (hb hc1)] at h1
    cases h1
end
theorem hs_no10 {s : ByteArray} (h : (10 : UInt8) ∉ s.data.toList) : hsB s lfB = false := by
  cases e : hsB s lfB with
  | false => rfl
  | true =>
    exfalso
    unfold hsB Lib.hasSuffix at e
    obtain ⟨t, ht⟩ := List.isSuffixOf_iff_suffix.1 e
    exact h (by rw [← ht]; exact List.mem_append_right _ (List.mem_singleton.2 rfl))
theorem cut_cat : ∀ (ls : List ByteArray), (∀ x ∈ ls, (10 : UInt8) ∉ x.data.toList) → ∀ i : Nat, i < (catL ls).data.toList.length → ∃ (m : Nat) (rem : ByteArray), m < ls.length ∧ (catL ls).data.toList.take i = (catL (ls.take m)).data.toList ++ rem.data.toList ∧ (10 : UInt8) ∉ rem.data.toList ∧ (((catL ls).data.toList.take i).countP (· == 10)) = m
  | [], _, i, hi => by simp [catL] at hi
  | x :: ls, h, i, hi => by
    have hx := h x (List.mem_cons_self ..)
    have e : (catL (x :: ls)).data.toList = x.data.toList ++ (10 :: (catL ls).data.toList) := by
      show ((x ++ lfB) ++ catL ls).data.toList = _
      rw [dcat, dcat, List.append_assoc]
      rfl
    rw [e] at hi ⊢
    by_cases hc : i ≤ x.data.toList.length
    · refine ⟨0, ⟨(x.data.toList.take i).toArray⟩, Nat.succ_pos _, ?_, ?_, ?_⟩
      · rw [List.take_append_of_le_length hc]
        show _ = [] ++ _
        simp
      · intro hm
        exact hx (List.mem_of_mem_take (by simpa using hm))
      · rw [List.take_append_of_le_length hc]
        exact cnt10 fun hm => hx (List.mem_of_mem_take hm)
    · obtain ⟨j, hj⟩ : ∃ j, i = x.data.toList.length + 1 + j := ⟨i - x.data.toList.length - 1, by omega⟩
      rw [List.length_append, List.length_cons] at hi
      obtain ⟨m, rem, h1, h2, h3, h4⟩ := cut_cat ls (fun y hy => h y (List.mem_cons_of_mem _ hy)) j (by omega)
      have et : (x.data.toList ++ (10 :: (catL ls).data.toList)).take i = x.data.toList ++ (10 :: (catL ls).data.toList.take j) := by
        rw [List.take_append, List.take_of_length_le (by omega), show i - x.data.toList.length = j + 1 by omega, List.take_succ_cons]
      refine ⟨m + 1, rem, by rw [List.length_cons]; omega, ?_, h3, ?_⟩
      · rw [et, h2, List.take_succ_cons]
        show _ = ((x ++ lfB) ++ catL (ls.take m)).data.toList ++ _
        rw [dcat, dcat]
        simp
      · rw [et, List.countP_append, List.countP_cons, cnt10 hx, h4]
        simp
theorem pcs_more : ∀ (ls : List ByteArray) (r : ByteArray), (∀ x ∈ ls, (10 : UInt8) ∉ x.data.toList) → pcs (catL ls ++ r) = ls.map (· ++ lfB) ++ pcs r
  | [], r, _ => by
    rw [show catL [] = eB from rfl, eB_cat]
    rfl
  | x :: ls, r, h => by
    have e : catL (x :: ls) ++ r = (x ++ lfB) ++ (catL ls ++ r) := by
      show ((x ++ lfB) ++ catL ls) ++ r = _
      rw [ByteArray.append_assoc]
    rw [e, pcs_hit x _ (h x (List.mem_cons_self ..)), pcs_more ls r fun y hy => h y (List.mem_cons_of_mem _ hy)]
    rfl
theorem take_len_append {α : Type} (xs ys : List α) (n : Nat) (h : n = xs.length) : (xs ++ ys).take n = xs := by rw [h, List.take_left]
theorem allL_no10 (ls : List ByteArray) (r : ByteArray) (h : ∀ x ∈ ls, (10 : UInt8) ∉ x.data.toList) (hr : (10 : UInt8) ∉ r.data.toList) : allL (catL ls ++ r) = ls.map (· ++ lfB) ∨ allL (catL ls ++ r) = ls.map (· ++ lfB) ++ [r] := by
  unfold allL
  rw [pcs_more ls r h, pcs_no r hr]
  split
  · left
    exact take_len_append _ _ _ (by simp)
  · right
    rfl
theorem allL_more (ls : List ByteArray) (X : ByteArray) (h : ∀ x ∈ ls, (10 : UInt8) ∉ x.data.toList) : ∃ r rs, allL (catL ls ++ (X ++ lfB)) = ls.map (· ++ lfB) ++ r :: rs := by
  obtain ⟨a, b, ha, hX⟩ : ∃ a b : ByteArray, (10 : UInt8) ∉ a.data.toList ∧ X ++ lfB = (a ++ lfB) ++ b := by
    have key : ∀ l : List UInt8, ∃ a b : List UInt8, (10 : UInt8) ∉ a ∧ l ++ [10] = (a ++ [10]) ++ b := by
      intro l
      induction l with
      | nil => exact ⟨[], [], by simp, rfl⟩
      | cons c l ih =>
        by_cases hc : c = 10
        · exact ⟨[], l ++ [10], by simp, by rw [hc]; rfl⟩
        · obtain ⟨a, b, ha, he⟩ := ih
          exact ⟨c :: a, b, by simp [ha, Ne.symm hc], by rw [List.cons_append, he]; rfl⟩
    obtain ⟨a, b, ha, he⟩ := key X.data.toList
    refine ⟨⟨a.toArray⟩, ⟨b.toArray⟩, by simpa using ha, bext ?_⟩
    rw [dcat, dcat, dcat]
    simpa using he
  rw [hX]
  unfold allL
  rw [pcs_more ls _ h, pcs_hit a b ha]
  have hb := pcs_len b
  split
  · refine ⟨a ++ lfB, (pcs b).take ((pcs b).length - 1), ?_⟩
    rw [List.take_append, List.take_of_length_le (by simp), show (ls.map (· ++ lfB) ++ (a ++ lfB) :: pcs b).length - 1 - (ls.map (· ++ lfB)).length = (pcs b).length - 1 + 1 by simp <;> omega, List.take_succ_cons]
  · exact ⟨a ++ lfB, pcs b, rfl⟩
section
variable {su bo : ByteArray} {ps : List PP}
theorem cut_none (h : rightS su bo ps = true) (i : Int) (h0 : 0 ≤ i) (h1 : i < (textL su bo ps).size) : parseP ((textL su bo ps).extract 0 i.toNat) = (none, lfN (textL su bo ps) i.toNat) := by
  rw [text_yes h] at h1 ⊢
  have hlt : i.toNat < (catL (linesL su bo ps)).data.toList.length := by
    have h4 : (catL (linesL su bo ps)).data.toList.length = (catL (linesL su bo ps)).size := Array.length_toList
    omega
  obtain ⟨m, rem, hm, ht, hr, hc⟩ := cut_cat _ lines_no10 i.toNat hlt
  have e : (catL (linesL su bo ps)).extract 0 i.toNat = catL ((linesL su bo ps).take m) ++ rem := bext (by rw [Lib.extract_from_zero, ht, dcat])
  have en : lfN (catL (linesL su bo ps)) i.toNat = (m : Int) := by unfold lfN; rw [hc]
  rw [e, en]
  unfold parseP
  have h2 := less_none h m hm rem (hs_no10 hr)
  rw [← List.map_take] at h2
  rcases allL_no10 ((linesL su bo ps).take m) rem (fun x hx => lines_no10 x (List.mem_of_mem_take hx)) hr with e2 | e2
  · rw [e2]; exact h2.1
  · rw [e2]; exact h2.2
theorem behind_none (h : rightS su bo ps = true) (X : ByteArray) : parseP ((textL su bo ps ++ X) ++ lfB) = (none, ((linesL su bo ps).length : Int)) := by
  rw [text_yes h, ByteArray.append_assoc]
  obtain ⟨r, rs, e⟩ := allL_more (linesL su bo ps) X lines_no10
  unfold parseP
  rw [e]
  exact more_none h r rs
end
end
section
section
attribute [local go_sem high] eqA49
end
theorem and_low (x : Int) (m : Nat) (hm : m < 9223372036854775808) : 0 ≤ Go.bits .and .i64 x (m : Int) ∧ Go.bits .and .i64 x (m : Int) ≤ m := by
  have h : Go.bits .and .i64 x (m : Int) = IntKind.i64.wrap ((BitVec.ofInt 64 x &&& BitVec.ofInt 64 (m : Int)).toNat : Int) := rfl
  have h2 : (BitVec.ofInt 64 x &&& BitVec.ofInt 64 (m : Int)).toNat ≤ m := by
    rw [BitVec.toNat_and]
    refine Nat.le_trans Nat.and_le_right ?_
    rw [BitVec.toNat_ofInt]
    omega
  rw [h]
  generalize (BitVec.ofInt 64 x &&& BitVec.ofInt 64 (m : Int)).toNat = n at h2 ⊢
  have : IntKind.i64.wrap (n : Int) = n := IntWalk.i64_in _ (by omega)
  rw [this]
  omega
end
namespace GText_
theorem text_calls (su bo : ByteArray) (A0 : Option Addr) (c0 : Nat) (ps : List S46) (w : World) (hr : Kd.C k46 w A0 ps.length ps) (hc : ps.length ≤ c0) (hsm : ps.length + sumL ps ≤ 1000000000) (hL : LaidW w) (hz : szP ps) :
    Calls Tryd.prog 16 #[.agg #[.string su, .string bo, .slice A0 ps.length c0]] w fun e w' => e = .returned (.string (textL su bo ps)) ∧ Below w.heap.size w w' := by
 have hpl := len_C hr
 have hll := lines_len su bo ps
 have hcz : (catL (linesL su bo ps)).size ≤ 140737488355328 := by have h_ := cat_size _ (line_sz su bo ps (by omega)); omega
 refine gw_start (N := 10) (vs := [.agg #[.string su, .string bo, .slice A0 ps.length c0]]) Tryd.func16 rfl rfl (by simp) fun a HF HO => ?_
 replace HO : Own w w [] := HO
 refine gR fun K1 hK1 => ?_
 refine gw_new HF HO (want_none rfl) rfl (by decide) (op_box rfl (HF.ev rfl)) ?_
 intro g2 _ w4 H5 O6; clear HF HO
 have O7 : Own w w4 [Bk g2 [.string su, .string bo, .slice A0 ps.length c0] 24] := O6
 clear O6
 refine Vc H5 fun _ H9 => ?_
 refine gE hK1 ?_
 refine gw_seq fun K10 hK10 => ?_
 refine gR fun K11 hK11 => ?_
 refine V H9 (op_loadn gwagg24 gwsiz24 rfl (H9.ev rfl) (O7.get 0 rfl) rfl rfl) fun _ H13 => ?_
 clear H5 H9
 refine Wk H13 Tryd.func14 rfl (ar_cons (H13.ev rfl) ar_nil) (right_calls A0 c0 su bo ps _ hz (Kd.C_below hr O7.below) hc) ?_
 rintro e14 w15 ⟨rfl, hb16⟩
 refine ⟨_, rfl, fun _ H18 => ?_⟩
 have O19 := O7.after hb16
 clear H13 O7 hb16
 refine V H18 (op_not rfl (H18.ev rfl)) fun _ H22 => ?_
 refine gE hK11 ?_
 clear H18
 refine gw_cond H22 rfl (fun hb23 => ?_) (fun hb23 => ?_)
 ·
  have H24 := H22.subst_ (d := 5) (b := true) rfl hb23
  clear H22
  (try simp only [Bool.and_eq_true, Bool.and_eq_false_iff, Bool.not_and, Bool.or_eq_true, Bool.or_eq_false_iff, Bool.not_or, Bool.not_not, Bool.not_eq_true', Bool.not_eq_false', Bool.not_eq_true, Bool.not_eq_false] at hb23)
  have hno : rightS su bo ps = false := by have hb_ := hb23; revert hb_; cases rightS su bo ps <;> simp
  refine gR fun K25 hK25 => ?_
  refine Vc H24 fun _ H27 => ?_
  refine gE hK25 ?_
  refine wp_ret ?_
  clear H24
  refine gw_thr ?_
  refine gw_ret1 H27 rfl rfl ?_
  exact ⟨by unfold textL; rw [if_neg (by rw [hno]; decide)], O19.below⟩
 have H28 := H22.subst_ (d := 5) (b := false) rfl hb23
 clear H22
 (try simp only [Bool.and_eq_true, Bool.and_eq_false_iff, Bool.not_and, Bool.or_eq_true, Bool.or_eq_false_iff, Bool.not_or, Bool.not_not, Bool.not_eq_true', Bool.not_eq_false', Bool.not_eq_true, Bool.not_eq_false] at hb23)
 have hyes : rightS su bo ps = true := by have hb_ := hb23; revert hb_; cases rightS su bo ps <;> simp
 refine gS hK10 ?_
 refine gR fun K29 hK29 => ?_
 refine V H28 (op_loadn gwagg24 gwsiz24 rfl (H28.ev rfl) (O19.get 0 rfl) rfl rfl) fun _ H31 => ?_
 clear H28
 refine Wk H31 Tryd.func28 rfl (ar_cons (H31.ev rfl) ar_nil) (lines_calls su bo A0 c0 ps _ (Kd.C_below hr O19.below) hc hsm (hL.own O19)) ?_
 rintro e35 w36 ⟨A32, c33, S34, rfl, hb37⟩
 refine ⟨_, rfl, fun _ H39 => ?_⟩
 have O40 := O19.fresh hb37
 have hbel41 := O19.below
 clear H31 O19 hb37
 have O42 := O40.lowrow 0 rfl (base' := w.heap.size) (Below.size hbel41)
 refine Wk H39 Tryd.func27 rfl (ar_cons (H39.ev rfl) (ar_cons (ev_c _ _) ar_nil)) (join_row (O42.get 0 rfl) (by intro h_; have h2_ := lines_len su bo ps; rw [h_] at h2_; simp at h2_) (by have h2_ := lines_len su bo ps; omega) hcz) ?_
 rintro e43 w44 ⟨rfl, hb45⟩
 refine ⟨_, rfl, fun _ H47 => ?_⟩
 have O48 := O42.after hb45
 clear H39 O42 hb45
 refine V H47 (op_cats rfl (H47.ev rfl) (ev_c _ _) (by have h_ : (joinB (linesL su bo ps)).size = (Lib.join ((linesL su bo ps).map (·.data.toList)) [10]).length := List.size_toArray ..; have h2_ := join_size (linesL su bo ps) (by intro h3_; rw [h3_] at hll; simp at hll); show (joinB (linesL su bo ps)).size + 1 ≤ _; omega)) fun _ H51 => ?_
 refine Va H51 fun _ H53 => ?_
 refine gE hK29 ?_
 refine wp_ret ?_
 clear H47 H51
 refine gw_ret1 H53 rfl rfl ?_
 exact ⟨by unfold textL; rw [if_pos hyes, ← join_cat (linesL su bo ps) (by intro h3_; rw [h3_] at hll; simp at hll)], O48.below⟩
end GText_
export GText_ (text_calls)
namespace GAlive_
theorem alive_walk (w : World) (hL : LaidW w) :
    Calls Tryd.prog 9 #[] w fun e w' => e = .returned (.bool true) ∧ Below w.heap.size w w' := by
 refine gw_start (N := 36) (vs := []) Tryd.func9 rfl rfl (by simp) fun a HF HO => ?_
 replace HO : Own w w [] := HO
 refine gR fun K1 hK1 => ?_
 refine Vc HF ?_
 intro _ H3; clear HF
 refine gE hK1 ?_
 refine gR fun K4 hK4 => ?_
 have O19 : Own w _ [(Chunk.all [])] := Own.bundle (HO.sel [] (by decide))
 refine Wk H3 Tryd.func21 rfl ar_nil (first_frz w _ (Chunk.all []) O19) ?_
 rintro e13 w14 ⟨A5, c6, wz7, S8, rfl, hb15, hbz9, hFz10, hlz11⟩
 refine ⟨_, rfl, fun _ H17 => ?_⟩
 have O18 : Own w w14 [Chunk.frz wz7 S8] := Own.unbundle (hb15.sel [1, 0] (by decide))
 clear O19
 clear H3 HO hb15
 refine Wk H17 Tryd.func16 rfl (ar_cons (H17.ev rfl) ar_nil) (text_calls (⟨#[115]⟩ : ByteArray) (⟨#[98]⟩ : ByteArray) A5 c6 firstL _ (frz_C (i := 0) O18 rfl hbz9 hFz10) hlz11 (by decide : firstL.length + sumL firstL ≤ 1000000000) (hL.own O18) firstL_sz) ?_
 rintro e21 w22 ⟨rfl, hb23⟩
 refine ⟨_, rfl, fun _ H25 => ?_⟩
 have O26 := O18.after hb23
 clear H17 O18 hb23
 refine Va H25 fun _ H29 => ?_
 refine gE hK4 ?_
 refine gR fun K30 hK30 => ?_
 refine Vm H29 fun _ H32 => ?_
 clear H25 H29
 have O47 : Own w _ [(Chunk.all [Chunk.frz wz7 S8])] := Own.bundle (O26.sel [0] (by decide))
 refine Wk H32 Tryd.func18 rfl (ar_cons (H32.ev rfl) ar_nil) (parse_told w _ (Chunk.all [Chunk.frz wz7 S8]) (textL (⟨#[115]⟩ : ByteArray) (⟨#[98]⟩ : ByteArray) firstL) (⟨#[115]⟩ : ByteArray) (⟨#[98]⟩ : ByteArray) firstL 0 0 (told_yes (parse_text _ _ _ right_one)) (by rw [text_one]; decide) hL O47) ?_
 rintro e41 w42 ⟨A33, c34, wz35, S36, rfl, hb43, hbz37, hFz38, hlz39⟩
 refine ⟨_, rfl, fun _ H45 => ?_⟩
 have O46 : Own w w42 [Chunk.frz wz7 S8, Chunk.frz wz35 S36] := Own.unbundle (hb43.sel [1, 0] (by decide))
 clear O47
 clear H32 O26 hb43
 refine Vm H45 fun _ H50 => ?_
 refine Vx H50 fun _ H52 => ?_
 refine Vx H52 fun _ H54 => ?_
 refine Vx H54 fun _ H56 => ?_
 clear H45 H50 H52 H54
 refine gw_new H56 O46 (want_none rfl) rfl (by decide) (op_alloc gwzer24 rfl) ?_
 intro g57 _ w59 H60 O61; clear H56 O46
 have O62 : Own w w59 [Bk g57 [.string (⟨#[]⟩ : ByteArray), .string (⟨#[]⟩ : ByteArray), .slice none 0 0] 24, Chunk.frz wz7 S8, Chunk.frz wz35 S36] := O61
 clear O61
 refine gw_setn 0 H60 O62 rfl (want_none rfl) rfl (op_storen gwsiz24 rfl (H60.ev rfl) (H60.ev rfl) (O62.get 0 rfl) rfl (by simp) (by simp [Value.oneCell'])) ?_
 intro _ w65 H64 O66; clear H60 O62
 refine Va H64 fun _ H68 => ?_
 refine Va H68 fun _ H70 => ?_
 refine gE hK30 ?_
 refine gR fun K71 hK71 => ?_
 refine Vm H70 fun _ H73 => ?_
 refine V H73 (op_eqs rfl (H73.ev rfl) (ev_c _ _)) fun _ H75 => ?_
 clear H64 H68 H70 H73
 have H76 := H75.lit (b := true) (by rw [text_one]; simp)
 clear H75
 refine Vm H76 fun _ H78 => ?_
 refine V2 H78 (want_yes H78 rfl rfl rfl rfl) (op_move rfl (H78.ev rfl)) fun _ H80 => ?_
 refine V2 H80 (want_yes H80 rfl rfl rfl rfl) (op_eqi rfl (H80.ev rfl) (ev_c _ _)) fun _ H82 => ?_
 clear H76 H78 H80
 have H83 := H82.lit (b := true) (by decide)
 clear H82
 refine V H83 (op_pick_t rfl (H83.ev rfl) (H83.ev rfl)) fun _ H85 => ?_
 refine Vm H85 fun _ H87 => ?_
 refine V2 H87 (want_yes H87 rfl rfl rfl rfl) (op_loadn gwagg24 gwsiz24 rfl (H87.ev rfl) (O66.get 0 rfl) rfl rfl) fun _ H89 => ?_
 clear H83 H85 H87
 have O103 : Own w _ [(Chunk.all [Bk g57 [.string (⟨#[115]⟩ : ByteArray), .string (⟨#[98]⟩ : ByteArray), .slice A33 firstL.length c34] 24, Chunk.frz wz7 S8]), Chunk.frz wz35 S36] := Own.bundle (O66.sel [0, 1, 2] (by decide))
 refine gw_call H89 (want_yes H89 rfl rfl rfl rfl) rfl (by decide) (op_callL Tryd.func11 (by kernel_rfl) rfl rfl (ar_cons (H89.ev rfl) ar_nil)) (of_frz w _ wz35 (Chunk.all [Bk g57 [.string (⟨#[115]⟩ : ByteArray), .string (⟨#[98]⟩ : ByteArray), .slice A33 firstL.length c34] 24, Chunk.frz wz7 S8]) S36 A33 c34 (⟨#[115]⟩ : ByteArray) (⟨#[98]⟩ : ByteArray) firstL firstL_sz hbz37 hFz38 hlz39 O103) ?_
 rintro e97 w98 ⟨A90, c91, wz92, S93, rfl, hb99, hbz94, hFz38, hFz95, hlz96⟩
 refine ⟨_, rfl, fun _ H101 => ?_⟩
 have O102 : Own w w98 [Bk g57 [.string (⟨#[115]⟩ : ByteArray), .string (⟨#[98]⟩ : ByteArray), .slice A33 firstL.length c34] 24, Chunk.frz wz7 S8, Chunk.frz wz92 S93] := Own.unbundle (hb99.sel [0, 1] (by decide))
 clear O103
 clear H89 O66 hb99
 have O119 : Own w _ [(Chunk.all [Bk g57 [.string (⟨#[115]⟩ : ByteArray), .string (⟨#[98]⟩ : ByteArray), .slice A33 firstL.length c34] 24, Chunk.frz wz7 S8, Chunk.frz wz92 S93])] := Own.bundle (O102.sel [0, 1, 2] (by decide))
 refine gw_call H101 (want_yes H101 rfl rfl rfl rfl) rfl (by decide) (op_callL Tryd.func21 (by kernel_rfl) rfl rfl ar_nil) (first_frz w _ (Chunk.all [Bk g57 [.string (⟨#[115]⟩ : ByteArray), .string (⟨#[98]⟩ : ByteArray), .slice A33 firstL.length c34] 24, Chunk.frz wz7 S8, Chunk.frz wz92 S93]) O119) ?_
 rintro e113 w114 ⟨A105, c106, wz107, S108, rfl, hb115, hbz109, hFz110, hlz111⟩
 refine ⟨_, rfl, fun _ H117 => ?_⟩
 have O118 : Own w w114 [Bk g57 [.string (⟨#[115]⟩ : ByteArray), .string (⟨#[98]⟩ : ByteArray), .slice A33 firstL.length c34] 24, Chunk.frz wz7 S8, Chunk.frz wz92 S93, Chunk.frz wz107 S108] := Own.unbundle (hb115.sel [1, 0] (by decide))
 clear O119
 clear H101 O102 hb115
 have O134 : Own w _ [(Chunk.all [Bk g57 [.string (⟨#[115]⟩ : ByteArray), .string (⟨#[98]⟩ : ByteArray), .slice A33 firstL.length c34] 24, Chunk.frz wz7 S8, Chunk.frz wz92 S93]), Chunk.frz wz107 S108] := Own.bundle (O118.sel [0, 1, 2, 3] (by decide))
 refine gw_call H117 (want_yes H117 rfl rfl rfl rfl) rfl (by decide) (op_callL Tryd.func11 (by kernel_rfl) rfl rfl (ar_cons (H117.ev rfl) ar_nil)) (of_frz w _ wz107 (Chunk.all [Bk g57 [.string (⟨#[115]⟩ : ByteArray), .string (⟨#[98]⟩ : ByteArray), .slice A33 firstL.length c34] 24, Chunk.frz wz7 S8, Chunk.frz wz92 S93]) S108 A105 c106 (⟨#[115]⟩ : ByteArray) (⟨#[98]⟩ : ByteArray) firstL firstL_sz hbz109 hFz110 hlz111 O134) ?_
 rintro e128 w129 ⟨A121, c122, wz123, S124, rfl, hb130, hbz125, hFz110, hFz126, hlz127⟩
 refine ⟨_, rfl, fun _ H132 => ?_⟩
 have O133 : Own w w129 [Bk g57 [.string (⟨#[115]⟩ : ByteArray), .string (⟨#[98]⟩ : ByteArray), .slice A33 firstL.length c34] 24, Chunk.frz wz7 S8, Chunk.frz wz92 S93, Chunk.frz wz123 S124] := Own.unbundle (hb130.sel [0, 1] (by decide))
 clear O134
 clear H117 O118 hb130
 refine gw_call H132 (want_yes H132 rfl rfl rfl rfl) rfl (by decide) (op_callL Tryd.func20 (by kernel_rfl) rfl rfl (ar_cons (H132.ev rfl) (ar_cons (H132.ev rfl) ar_nil))) (same_calls A90 A121 c91 c122 (⟨#[115]⟩ : ByteArray) (⟨#[98]⟩ : ByteArray) firstL _ firstL_sz (frz_C (i := 2) O133 rfl hbz94 hFz95) hlz96 (frz_C (i := 3) O133 rfl hbz125 hFz126) hlz127) ?_
 rintro e136 w137 ⟨rfl, hb138⟩
 refine ⟨_, rfl, fun _ H140 => ?_⟩
 have O141 := O133.after hb138
 clear H132 O133 hb138
 refine V H140 (op_pick_t rfl (H140.ev rfl) (H140.ev rfl)) fun _ H144 => ?_
 refine Vm H144 fun _ H146 => ?_
 refine V2 H146 (want_yes H146 rfl rfl rfl rfl) (op_loadn gwagg24 gwsiz24 rfl (H146.ev rfl) (O141.get 0 rfl) rfl rfl) fun _ H148 => ?_
 clear H140 H144 H146
 refine gw_call H148 (want_yes H148 rfl rfl rfl rfl) rfl (by decide) (op_callL Tryd.func12 (by kernel_rfl) rfl rfl (ar_cons (H148.ev rfl) ar_nil)) (totals_calls (⟨#[115]⟩ : ByteArray) (⟨#[98]⟩ : ByteArray) A33 c34 firstL _ (frz_C (i := 2) O141 rfl hbz94 hFz38) hlz39 (by decide : sumL firstL ≤ 1000000000)) ?_
 rintro e149 w150 ⟨rfl, hb151⟩
 refine ⟨_, rfl, fun _ H153 => ?_⟩
 have O154 := O141.after hb151
 clear H148 O141 hb151
 refine V2 H153 (want_yes H153 rfl rfl rfl rfl) (op_aidx Tryd.underlying31 gwsiz3 gwagg3 rfl (H153.ev rfl) (ev_c _ _) (by decide) rfl) fun _ H157 => ?_
 refine V2 H157 (want_yes H157 rfl rfl rfl rfl) (op_eqi rfl (H157.ev rfl) (ev_c _ _)) fun _ H159 => ?_
 clear H153 H157
 have H160 := H159.lit (b := true) (by decide)
 clear H159
 refine V H160 (op_pick_t rfl (H160.ev rfl) (H160.ev rfl)) fun _ H162 => ?_
 refine Vm H162 fun _ H164 => ?_
 refine V2 H164 (want_yes H164 rfl rfl rfl rfl) (op_loadn gwagg24 gwsiz24 rfl (H164.ev rfl) (O154.get 0 rfl) rfl rfl) fun _ H166 => ?_
 clear H160 H162 H164
 refine gw_call H166 (want_yes H166 rfl rfl rfl rfl) rfl (by decide) (op_callL Tryd.func14 (by kernel_rfl) rfl rfl (ar_cons (H166.ev rfl) ar_nil)) (right_calls A33 c34 (⟨#[115]⟩ : ByteArray) (⟨#[98]⟩ : ByteArray) firstL _ firstL_sz (frz_C (i := 2) O154 rfl hbz94 hFz38) hlz39) ?_
 rintro e167 w168 ⟨rfl, hb169⟩
 refine ⟨_, rfl, fun _ H171 => ?_⟩
 have O172 := O154.after hb169
 clear H166 O154 hb169
 have H174 := H171.lit (b := true) (by exact right_one)
 clear H171
 refine V H174 (op_pick_t rfl (H174.ev rfl) (H174.ev rfl)) fun _ H176 => ?_
 refine Va H176 fun _ H178 => ?_
 refine gE hK71 ?_
 refine wp_ret ?_
 clear H174 H176
 refine gw_ret1 H178 rfl rfl ?_
 exact ⟨rfl, O172.below⟩
end GAlive_
export GAlive_ (alive_walk)
namespace GCuts_
theorem cuts_walk (su bo : ByteArray) (A0 : Option Addr) (c0 : Nat) (ps : List S46) (at_ : Int) (more : ByteArray) (w : World) (hr : Kd.C k46 w A0 ps.length ps) (hc : ps.length ≤ c0) (hz : szP ps) (hL : LaidW w) :
    Calls Tryd.prog 6 #[.agg #[.string su, .string bo, .slice A0 ps.length c0], .int .i64 at_, .string more] w fun e w' => e = .returned (.bool true) ∧ Below w.heap.size w w' := by
 have hpl := len_C hr
 refine gw_start (N := 97) (vs := [.agg #[.string su, .string bo, .slice A0 ps.length c0], J at_, .string more]) Tryd.func6 rfl rfl (by simp) fun a HF HO => ?_
 replace HO : Own w w [] := HO
 refine gR fun K1 hK1 => ?_
 refine gw_new HF HO (want_none rfl) rfl (by decide) (op_box rfl (HF.ev rfl)) ?_
 intro g2 _ w4 H5 O6; clear HF HO
 have O7 : Own w w4 [Bk g2 [.string su, .string bo, .slice A0 ps.length c0] 24] := O6
 clear O6
 refine Vc H5 fun _ H9 => ?_
 refine gE hK1 ?_
 refine gw_seq fun K10 hK10 => ?_
 refine gR fun K11 hK11 => ?_
 clear H5
 refine Wk H9 Tryd.func9 rfl ar_nil (alive_walk _ (hL.own O7)) ?_
 rintro e12 w13 ⟨rfl, hb14⟩
 refine ⟨_, rfl, fun _ H16 => ?_⟩
 have O17 := O7.after hb14
 clear H9 O7 hb14
 refine V H16 (op_not rfl (H16.ev rfl)) fun _ H20 => ?_
 refine gE hK11 ?_
 clear H16
 refine gw_cond H20 rfl (fun hb21 => ?_) (fun hb21 => ?_)
 ·
  cases hb21
 refine gS hK10 ?_
 refine gw_seq fun K22 hK22 => ?_
 refine gR fun K23 hK23 => ?_
 refine V H20 (op_loadn gwagg24 gwsiz24 rfl (H20.ev rfl) (O17.get 0 rfl) rfl rfl) fun _ H25 => ?_
 clear H20
 refine Wk H25 Tryd.func10 rfl (ar_cons (H25.ev rfl) ar_nil) (few_calls A0 c0 su bo ps _ hz (Kd.C_below hr O17.below) hc) ?_
 rintro e26 w27 ⟨rfl, hb28⟩
 refine ⟨_, rfl, fun _ H30 => ?_⟩
 have O31 := O17.after hb28
 clear H25 O17 hb28
 refine V H30 (op_not rfl (H30.ev rfl)) fun _ H34 => ?_
 refine Vm H34 fun _ H36 => ?_
 clear H30 H34
 refine gw_evG H36 rfl rfl rfl rfl (on_f _) rfl (by decide) (fun h_ => (op_loadn gwagg24 gwsiz24 rfl (H36.ev rfl) (O31.get 0 rfl) rfl rfl)) ?_
 intro _ H38; clear H36
 refine gw_callG H38 rfl rfl rfl rfl (on_f _) rfl (by decide) (fun h_ => (op_callL Tryd.func14 (by kernel_rfl) rfl rfl (ar_cons (ev_gv (H38.ev rfl) h_) ar_nil))) (fun h_ => right_calls A0 c0 su bo ps _ hz (Kd.C_below hr O31.below) hc) ?_
 intro _ w41 hb42 H40
 have O43 := O31.after hb42; clear H38 O31 hb42
 refine gw_evG H40 rfl rfl rfl rfl (on_f _) rfl (by decide) (fun h_ => (op_not rfl (ev_gv (H40.ev rfl) h_))) ?_
 intro _ H45; clear H40
 refine V H45 (op_pick_or rfl (H45.ev rfl) (ev_c _ _) (fun hp_ => (ev_gv (H45.ev rfl) (not_t hp_)))) fun _ H47 => ?_
 refine Vm H47 fun _ H49 => ?_
 clear H45 H47
 refine gw_evG H49 rfl rfl rfl rfl (on_f _) rfl (by decide) (fun h_ => (op_move rfl (H49.ev rfl))) ?_
 intro _ H51; clear H49
 refine gw_evG H51 rfl rfl rfl rfl (on_f _) rfl (by decide) (fun h_ => (op_lens Tryd.underlying9 rfl (ev_gv (H51.ev rfl) h_))) ?_
 intro _ H53; clear H51
 refine gw_evG H53 rfl rfl rfl rfl (on_f _) rfl (by decide) (fun h_ => (op_gtr rfl (ev_gv (H53.ev rfl) h_) (ev_c _ _))) ?_
 intro _ H55; clear H53
 refine V H55 (op_pick_or rfl (H55.ev rfl) (ev_c _ _) (fun hp_ => (ev_gv (H55.ev rfl) (not_t hp_)))) fun _ H57 => ?_
 refine gE hK23 ?_
 clear H55
 refine gw_cond H57 rfl (fun hb58 => ?_) (fun hb58 => ?_)
 ·
  have H59 := H57.subst_ (d := 33) (b := true) rfl hb58
  clear H57
  (try simp only [Bool.and_eq_true, Bool.and_eq_false_iff, Bool.not_and, Bool.or_eq_true, Bool.or_eq_false_iff, Bool.not_or, Bool.not_not, Bool.not_eq_true', Bool.not_eq_false', Bool.not_eq_true, Bool.not_eq_false, decide_eq_true_eq, decide_eq_false_iff_not, Int.not_lt, Int.not_le] at hb58)
  refine gR fun K60 hK60 => ?_
  refine Vc H59 fun _ H62 => ?_
  refine gE hK60 ?_
  refine wp_ret ?_
  clear H59
  refine gw_thr ?_
  refine gw_ret1 H62 rfl rfl ?_
  exact ⟨rfl, O43.below⟩
 have H63 := H57.subst_ (d := 33) (b := false) rfl hb58
 clear H57
 (try simp only [Bool.and_eq_true, Bool.and_eq_false_iff, Bool.not_and, Bool.or_eq_true, Bool.or_eq_false_iff, Bool.not_or, Bool.not_not, Bool.not_eq_true', Bool.not_eq_false', Bool.not_eq_true, Bool.not_eq_false, decide_eq_true_eq, decide_eq_false_iff_not, Int.not_lt, Int.not_le] at hb58)
 obtain ⟨hfw, hyes, hmo⟩ : ((ps.length : Int) + sumL ps ≤ 2000) ∧ rightS su bo ps = true ∧ (more.size : Int) ≤ 1000 := by have hb_ := hb58; revert hb_; cases rightS su bo ps <;> simp <;> omega
 have htb := text_big hyes
 have htz := text_size su bo ps (by omega)
 have hzl : (⟨#[10]⟩ : ByteArray).size = 1 := rfl
 refine gS hK22 ?_
 refine gR fun K64 hK64 => ?_
 refine V H63 (op_loadn gwagg24 gwsiz24 rfl (H63.ev rfl) (O43.get 0 rfl) rfl rfl) fun _ H66 => ?_
 clear H63
 refine Wk H66 Tryd.func16 rfl (ar_cons (H66.ev rfl) ar_nil) (text_calls su bo A0 c0 ps _ (Kd.C_below hr O43.below) hc (by omega) (hL.own O43) hz) ?_
 rintro e67 w68 ⟨rfl, hb69⟩
 refine ⟨_, rfl, fun _ H71 => ?_⟩
 have O72 := O43.after hb69
 clear H66 O43 hb69
 refine Va H71 fun _ H75 => ?_
 refine gE hK64 ?_
 refine gR fun K76 hK76 => ?_
 refine Vm H75 fun _ H78 => ?_
 refine V H78 (op_and rfl (H78.ev rfl) (ev_c _ _)) fun _ H80 => ?_
 clear H71 H75 H78
 obtain ⟨kw, hkw, hkw0, hkw1⟩ : ∃ k_ : Int, bits .and .i64 at_ 1048575 = k_ ∧ 0 ≤ k_ ∧ k_ ≤ 1048575 := ⟨_, rfl, and_low at_ 1048575 (by decide)⟩
 have H81 := H80.conv (v' := J kw) (congrArg (Value.int .i64) hkw)
 clear H80
 refine Vm H81 fun _ H83 => ?_
 refine V H83 (op_lens Tryd.underlying9 rfl (H83.ev rfl)) fun _ H85 => ?_
 refine V H85 (op_rem rfl (H85.ev rfl) (H85.ev rfl) (by omega)) fun _ H87 => ?_
 clear H81 H83 H85
 obtain ⟨rm, hrm, hrm0, hrm1⟩ : ∃ k_ : Int, Int.tmod kw ((textL su bo ps).size : Int) = k_ ∧ 0 ≤ k_ ∧ k_ < ((textL su bo ps).size : Int) := ⟨_, rfl, Int.tmod_nonneg _ (by omega), Int.tmod_lt_of_pos _ (by omega)⟩
 have H88 := H87.conv (v' := J rm) (congrArg (Value.int .i64) hrm)
 clear H87
 refine Va H88 fun _ H90 => ?_
 refine gE hK76 ?_
 refine gR fun K91 hK91 => ?_
 refine Vc H90 fun _ H93 => ?_
 refine gE hK91 ?_
 refine gw_seq fun K94 hK94 => ?_
 refine gR fun K95 hK95 => ?_
 refine Vc H93 fun _ H97 => ?_
 refine gE hK95 ?_
 clear H88 H90 H93
 refine wp_block ?_
 refine gw_loop (fun m_ a_ w_ => ∃ (i : Int) (q : Int), Fr 97 a_ [(10, J i), (9, J q), (2, .string more), (6, .bool false), (7, .string (textL su bo ps)), (8, J rm)] ∧ Own w w_ [Bk g2 [.string su, .string bo, .slice A0 ps.length c0] 24] ∧ (0 ≤ i ∧ i ≤ rm) ∧ (q = lfN (textL su bo ps) i.toNat) ∧ (0 ≤ q ∧ q ≤ i) ∧ m_ = ((rm : Int).toNat - i.toNat)) (((rm : Int).toNat - (0 : Int).toNat)) ?_ ?_
 ·
  refine ⟨0, 0, (H97.pick (t := 10) rfl (H97.pick (t := 9) rfl (H97.pick (t := 2) rfl (H97.pick (t := 6) rfl (H97.pick (t := 7) rfl (H97.pick (t := 8) rfl H97.nil)))))), O72.sel [0] (by decide), ?_, ?_, ?_, rfl⟩
  ·
   omega
  ·
   exact (lf_zero _).symm
  omega
 rintro m99 _ w101 ⟨i, q, H102, O103, hi, hq, hqb, hm104⟩
 refine gw_seq fun K105 hK105 => ?_
 refine gR fun K106 hK106 => ?_
 refine Vm H102 fun _ H108 => ?_
 refine Vm H108 fun _ H110 => ?_
 refine V H110 (op_lss rfl (H110.ev rfl) (H110.ev rfl)) fun _ H112 => ?_
 refine gE hK106 ?_
 clear H102 H108 H110
 refine gw_cond H112 rfl (fun hb113 => ?_) (fun hb113 => ?_)
 ·
  have H114 := H112.subst_ (d := 43) (b := true) rfl hb113
  clear H112
  (try simp only [decide_eq_true_eq] at hb113)
  refine gS hK105 ?_
  refine gw_seq fun K115 hK115 => ?_
  refine wp_block ?_
  refine gR fun K116 hK116 => ?_
  refine Vm H114 fun _ H118 => ?_
  refine Vm H118 fun _ H120 => ?_
  refine V H120 (op_sidx Tryd.underlying9 rfl (H120.ev rfl) (H120.ev rfl) ⟨by omega, by omega⟩) fun _ H122 => ?_
  refine V H122 (op_eqi rfl (H122.ev rfl) (ev_c _ _)) fun _ H124 => ?_
  refine gE hK116 ?_
  clear H114 H118 H120 H122
  refine gw_cond H124 rfl (fun hb125 => ?_) (fun hb125 => ?_)
  ·
   have H126 := H124.subst_ (d := 49) (b := true) rfl hb125
   clear H124
   (try simp only [decide_eq_true_eq] at hb125)
   have hnl := hb125
   refine wp_region_lit ?_
   refine Vm H126 fun _ H128 => ?_
   refine V H128 (op_add rfl (H128.ev rfl) (ev_c _ _) (by omega)) fun _ H130 => ?_
   refine Va H130 fun _ H132 => ?_
   clear H126 H128 H130
   refine wpList_nil ?_
   refine gw_blk ?_
   refine gw_nx (hK115 _ _ ?_)
   refine wp_region_lit ?_
   refine Vm H132 fun _ H134 => ?_
   refine V H134 (op_add rfl (H134.ev rfl) (ev_c _ _) (by omega)) fun _ H136 => ?_
   refine Va H136 fun _ H138 => ?_
   clear H132 H134 H136
   refine wpList_nil ?_
   refine gw_nx ⟨_, ?_, i + 1, q + 1, (H138.pick (t := 10) rfl (H138.pick (t := 9) rfl (H138.pick (t := 2) rfl (H138.pick (t := 6) rfl (H138.pick (t := 7) rfl (H138.pick (t := 8) rfl H138.nil)))))), O103.sel [0] (by decide), ?_, ?_, ?_, rfl⟩
   ·
    rw [hm104]; omega
   ·
    omega
   ·
    rw [hq]; exact (lf_yes (textL su bo ps) i (by omega) (by omega) hnl).symm
   omega
  have H139 := H124.subst_ (d := 49) (b := false) rfl hb125
  clear H124
  (try simp only [decide_eq_false_iff_not] at hb125)
  have hnl := hb125
  refine wp_skip ?_
  refine gw_blk ?_
  refine gw_nx (hK115 _ _ ?_)
  refine wp_region_lit ?_
  refine Vm H139 fun _ H141 => ?_
  refine V H141 (op_add rfl (H141.ev rfl) (ev_c _ _) (by omega)) fun _ H143 => ?_
  refine Va H143 fun _ H145 => ?_
  clear H139 H141 H143
  refine wpList_nil ?_
  refine gw_nx ⟨_, ?_, i + 1, q, (H145.pick (t := 10) rfl (H145.pick (t := 9) rfl (H145.pick (t := 2) rfl (H145.pick (t := 6) rfl (H145.pick (t := 7) rfl (H145.pick (t := 8) rfl H145.nil)))))), O103.sel [0] (by decide), ?_, ?_, ?_, rfl⟩
  ·
   rw [hm104]; omega
  ·
   omega
  ·
   rw [hq]; exact (lf_no (textL su bo ps) i (by omega) (by omega) hnl).symm
  omega
 have H146 := H112.subst_ (d := 43) (b := false) rfl hb113
 clear H112
 (try simp only [decide_eq_false_iff_not, Int.not_lt] at hb113)
 refine wp_exit ?_
 refine gw_thx ?_
 refine gw_thx ?_
 refine gw_in ?_
 refine gw_nx (hK94 _ _ ?_)
 refine gR fun K147 hK147 => ?_
 refine Vm H146 fun _ H149 => ?_
 refine Vm H149 fun _ H151 => ?_
 refine V H151 (op_scut Tryd.underlying9 rfl (H151.ev rfl) rfl (some_ev (H151.ev rfl)) (sb_hi ⟨by omega, by omega⟩)) fun _ H153 => ?_
 clear H146 H149 H151
 have O168 : Own w _ [(Chunk.all [Bk g2 [.string su, .string bo, .slice A0 ps.length c0] 24])] := Own.bundle (O103.sel [0] (by decide))
 refine Wk H153 Tryd.func18 rfl (ar_cons (H153.ev rfl) ar_nil) (parse_told w _ (Chunk.all [Bk g2 [.string su, .string bo, .slice A0 ps.length c0] 24]) ((textL su bo ps).extract 0 rm.toNat) (⟨#[]⟩ : ByteArray) (⟨#[]⟩ : ByteArray) ([] : List PP) 80 (lfN (textL su bo ps) rm.toNat) (told_no (cut_none hyes rm (by omega) (by omega))) (by rw [ByteArray.size_extract]; omega) hL O168) ?_
 rintro e162 w163 ⟨A154, c155, wz156, S157, rfl, hb164, hbz158, hFz159, hlz160⟩
 refine ⟨_, rfl, fun _ H166 => ?_⟩
 have O167 : Own w w163 [Bk g2 [.string su, .string bo, .slice A0 ps.length c0] 24, Chunk.frz wz156 S157] := Own.unbundle (hb164.sel [1, 0] (by decide))
 clear O168
 clear H153 O103 hb164
 refine Vm H166 fun _ H171 => ?_
 refine Vx H171 fun _ H173 => ?_
 refine Vx H173 fun _ H175 => ?_
 refine Vx H175 fun _ H177 => ?_
 clear H166 H171 H173 H175
 refine gw_new H177 O167 (want_none rfl) rfl (by decide) (op_alloc gwzer24 rfl) ?_
 intro g178 _ w180 H181 O182; clear H177 O167
 have O183 : Own w w180 [Bk g178 [.string (⟨#[]⟩ : ByteArray), .string (⟨#[]⟩ : ByteArray), .slice none 0 0] 24, Bk g2 [.string su, .string bo, .slice A0 ps.length c0] 24, Chunk.frz wz156 S157] := O182
 clear O182
 refine gw_setn 0 H181 O183 rfl (want_none rfl) rfl (op_storen gwsiz24 rfl (H181.ev rfl) (H181.ev rfl) (O183.get 0 rfl) rfl (by simp) (by simp [Value.oneCell'])) ?_
 intro _ w186 H185 O187; clear H181 O183
 refine Va H185 fun _ H189 => ?_
 refine Va H189 fun _ H191 => ?_
 refine gE hK147 ?_
 refine gR fun K192 hK192 => ?_
 refine Vm H191 fun _ H194 => ?_
 refine Vm H194 fun _ H196 => ?_
 refine V H196 (op_cats rfl (H196.ev rfl) (H196.ev rfl) (by (try simp only [size_cat]); omega)) fun _ H198 => ?_
 refine V H198 (op_cats rfl (H198.ev rfl) (ev_c _ _) (by (try simp only [size_cat]); omega)) fun _ H200 => ?_
 clear H185 H189 H191 H194 H196 H198
 have O215 : Own w _ [(Chunk.all [Bk g178 [.string (⟨#[]⟩ : ByteArray), .string (⟨#[]⟩ : ByteArray), .slice A154 (([] : List PP).length) c155] 24, Bk g2 [.string su, .string bo, .slice A0 ps.length c0] 24, Chunk.frz wz156 S157])] := Own.bundle (O187.sel [0, 1, 2] (by decide))
 refine Wk H200 Tryd.func18 rfl (ar_cons (H200.ev rfl) ar_nil) (parse_told w _ (Chunk.all [Bk g178 [.string (⟨#[]⟩ : ByteArray), .string (⟨#[]⟩ : ByteArray), .slice A154 (([] : List PP).length) c155] 24, Bk g2 [.string su, .string bo, .slice A0 ps.length c0] 24, Chunk.frz wz156 S157]) (((textL su bo ps) ++ more) ++ (⟨#[10]⟩ : ByteArray)) (⟨#[]⟩ : ByteArray) (⟨#[]⟩ : ByteArray) ([] : List PP) 80 ((linesL su bo ps).length : Int) (told_no (behind_none hyes more)) (by rw [size_cat, size_cat]; omega) hL O215) ?_
 rintro e209 w210 ⟨A201, c202, wz203, S204, rfl, hb211, hbz205, hFz206, hlz207⟩
 refine ⟨_, rfl, fun _ H213 => ?_⟩
 have O214 : Own w w210 [Bk g178 [.string (⟨#[]⟩ : ByteArray), .string (⟨#[]⟩ : ByteArray), .slice A154 (([] : List PP).length) c155] 24, Bk g2 [.string su, .string bo, .slice A0 ps.length c0] 24, Chunk.frz wz156 S157, Chunk.frz wz203 S204] := Own.unbundle (hb211.sel [1, 0] (by decide))
 clear O215
 clear H200 O187 hb211
 refine Vm H213 fun _ H218 => ?_
 refine Vx H218 fun _ H220 => ?_
 refine Vx H220 fun _ H222 => ?_
 refine Vx H222 fun _ H224 => ?_
 clear H213 H218 H220 H222
 refine gw_new H224 O214 (want_none rfl) rfl (by decide) (op_alloc gwzer24 rfl) ?_
 intro g225 _ w227 H228 O229; clear H224 O214
 have O230 : Own w w227 [Bk g225 [.string (⟨#[]⟩ : ByteArray), .string (⟨#[]⟩ : ByteArray), .slice none 0 0] 24, Bk g178 [.string (⟨#[]⟩ : ByteArray), .string (⟨#[]⟩ : ByteArray), .slice A154 (([] : List PP).length) c155] 24, Bk g2 [.string su, .string bo, .slice A0 ps.length c0] 24, Chunk.frz wz156 S157, Chunk.frz wz203 S204] := O229
 clear O229
 refine gw_setn 0 H228 O230 rfl (want_none rfl) rfl (op_storen gwsiz24 rfl (H228.ev rfl) (H228.ev rfl) (O230.get 0 rfl) rfl (by simp) (by simp [Value.oneCell'])) ?_
 intro _ w233 H232 O234; clear H228 O230
 refine Va H232 fun _ H236 => ?_
 refine Va H236 fun _ H238 => ?_
 refine gE hK192 ?_
 refine gR fun K239 hK239 => ?_
 refine Vc H238 fun _ H241 => ?_
 refine gE hK239 ?_
 refine gw_seq fun K242 hK242 => ?_
 refine gR fun K243 hK243 => ?_
 refine Vc H241 fun _ H245 => ?_
 refine gE hK243 ?_
 clear H232 H236 H238 H241
 refine wp_block ?_
 refine gw_loop (fun m_ a_ w_ => ∃ (j : Int) (x : Int), Fr 97 a_ [(18, J j), (17, J x), (9, J q), (6, .bool false), (7, .string (textL su bo ps)), (12, J 80), (13, J (lfN (textL su bo ps) rm.toNat)), (15, J 80), (16, J ((linesL su bo ps).length : Int))] ∧ Own w w_ [Bk g225 [.string (⟨#[]⟩ : ByteArray), .string (⟨#[]⟩ : ByteArray), .slice A201 (([] : List PP).length) c202] 24, Bk g178 [.string (⟨#[]⟩ : ByteArray), .string (⟨#[]⟩ : ByteArray), .slice A154 (([] : List PP).length) c155] 24, Bk g2 [.string su, .string bo, .slice A0 ps.length c0] 24, Chunk.frz wz156 S157, Chunk.frz wz203 S204] ∧ (0 ≤ j ∧ j ≤ (textL su bo ps).size) ∧ (x = lfN (textL su bo ps) j.toNat) ∧ (0 ≤ x ∧ x ≤ j) ∧ m_ = (((textL su bo ps).size : Int).toNat - j.toNat)) ((((textL su bo ps).size : Int).toNat - (0 : Int).toNat)) ?_ ?_
 ·
  refine ⟨0, 0, (H245.pick (t := 18) rfl (H245.pick (t := 17) rfl (H245.pick (t := 9) rfl (H245.pick (t := 6) rfl (H245.pick (t := 7) rfl (H245.pick (t := 12) rfl (H245.pick (t := 13) rfl (H245.pick (t := 15) rfl (H245.pick (t := 16) rfl H245.nil))))))))), O234.sel [0, 1, 2, 3, 4] (by decide), ?_, ?_, ?_, rfl⟩
  ·
   omega
  ·
   exact (lf_zero _).symm
  omega
 rintro m247 _ w249 ⟨j, x, H250, O251, hj, hx, hxb, hm252⟩
 refine gw_seq fun K253 hK253 => ?_
 refine gR fun K254 hK254 => ?_
 refine Vm H250 fun _ H256 => ?_
 refine Vm H256 fun _ H258 => ?_
 refine V H258 (op_lens Tryd.underlying9 rfl (H258.ev rfl)) fun _ H260 => ?_
 refine V H260 (op_lss rfl (H260.ev rfl) (H260.ev rfl)) fun _ H262 => ?_
 refine gE hK254 ?_
 clear H250 H256 H258 H260
 refine gw_cond H262 rfl (fun hb263 => ?_) (fun hb263 => ?_)
 ·
  have H264 := H262.subst_ (d := 72) (b := true) rfl hb263
  clear H262
  (try simp only [decide_eq_true_eq] at hb263)
  refine gS hK253 ?_
  refine gw_seq fun K265 hK265 => ?_
  refine wp_block ?_
  refine gR fun K266 hK266 => ?_
  refine Vm H264 fun _ H268 => ?_
  refine Vm H268 fun _ H270 => ?_
  refine V H270 (op_sidx Tryd.underlying9 rfl (H270.ev rfl) (H270.ev rfl) ⟨by omega, by omega⟩) fun _ H272 => ?_
  refine V H272 (op_eqi rfl (H272.ev rfl) (ev_c _ _)) fun _ H274 => ?_
  refine gE hK266 ?_
  clear H264 H268 H270 H272
  refine gw_cond H274 rfl (fun hb275 => ?_) (fun hb275 => ?_)
  ·
   have H276 := H274.subst_ (d := 78) (b := true) rfl hb275
   clear H274
   (try simp only [decide_eq_true_eq] at hb275)
   have hnl := hb275
   refine wp_region_lit ?_
   refine Vm H276 fun _ H278 => ?_
   refine V H278 (op_add rfl (H278.ev rfl) (ev_c _ _) (by omega)) fun _ H280 => ?_
   refine Va H280 fun _ H282 => ?_
   clear H276 H278 H280
   refine wpList_nil ?_
   refine gw_blk ?_
   refine gw_nx (hK265 _ _ ?_)
   refine wp_region_lit ?_
   refine Vm H282 fun _ H284 => ?_
   refine V H284 (op_add rfl (H284.ev rfl) (ev_c _ _) (by omega)) fun _ H286 => ?_
   refine Va H286 fun _ H288 => ?_
   clear H282 H284 H286
   refine wpList_nil ?_
   refine gw_nx ⟨_, ?_, j + 1, x + 1, (H288.pick (t := 18) rfl (H288.pick (t := 17) rfl (H288.pick (t := 9) rfl (H288.pick (t := 6) rfl (H288.pick (t := 7) rfl (H288.pick (t := 12) rfl (H288.pick (t := 13) rfl (H288.pick (t := 15) rfl (H288.pick (t := 16) rfl H288.nil))))))))), O251.sel [0, 1, 2, 3, 4] (by decide), ?_, ?_, ?_, rfl⟩
   ·
    rw [hm252]; omega
   ·
    omega
   ·
    rw [hx]; exact (lf_yes (textL su bo ps) j (by omega) (by omega) hnl).symm
   omega
  have H289 := H274.subst_ (d := 78) (b := false) rfl hb275
  clear H274
  (try simp only [decide_eq_false_iff_not] at hb275)
  have hnl := hb275
  refine wp_skip ?_
  refine gw_blk ?_
  refine gw_nx (hK265 _ _ ?_)
  refine wp_region_lit ?_
  refine Vm H289 fun _ H291 => ?_
  refine V H291 (op_add rfl (H291.ev rfl) (ev_c _ _) (by omega)) fun _ H293 => ?_
  refine Va H293 fun _ H295 => ?_
  clear H289 H291 H293
  refine wpList_nil ?_
  refine gw_nx ⟨_, ?_, j + 1, x, (H295.pick (t := 18) rfl (H295.pick (t := 17) rfl (H295.pick (t := 9) rfl (H295.pick (t := 6) rfl (H295.pick (t := 7) rfl (H295.pick (t := 12) rfl (H295.pick (t := 13) rfl (H295.pick (t := 15) rfl (H295.pick (t := 16) rfl H295.nil))))))))), O251.sel [0, 1, 2, 3, 4] (by decide), ?_, ?_, ?_, rfl⟩
  ·
   rw [hm252]; omega
  ·
   omega
  ·
   rw [hx]; exact (lf_no (textL su bo ps) j (by omega) (by omega) hnl).symm
  omega
 have H296 := H262.subst_ (d := 72) (b := false) rfl hb263
 clear H262
 (try simp only [decide_eq_false_iff_not, Int.not_lt] at hb263)
 refine wp_exit ?_
 refine gw_thx ?_
 refine gw_thx ?_
 refine gw_in ?_
 refine gw_nx (hK242 _ _ ?_)
 refine gR fun K297 hK297 => ?_
 refine Vm H296 fun _ H299 => ?_
 refine V H299 (op_eqi rfl (H299.ev rfl) (ev_c _ _)) fun _ H301 => ?_
 clear H296 H299
 have H302 := H301.lit (b := true) (by decide)
 clear H301
 refine Vm H302 fun _ H304 => ?_
 refine V2 H304 (want_yes H304 rfl rfl rfl rfl) (op_move rfl (H304.ev rfl)) fun _ H306 => ?_
 refine V2 H306 (want_yes H306 rfl rfl rfl rfl) (op_move rfl (H306.ev rfl)) fun _ H308 => ?_
 refine V2 H308 (want_yes H308 rfl rfl rfl rfl) (op_eqi rfl (H308.ev rfl) (H308.ev rfl)) fun _ H310 => ?_
 clear H302 H304 H306 H308
 have H311 := H310.lit (b := true) (by have e_ : i = rm := (by omega); rw [hq, e_]; simp)
 clear H310
 refine V H311 (op_pick_t rfl (H311.ev rfl) (H311.ev rfl)) fun _ H313 => ?_
 refine Vm H313 fun _ H315 => ?_
 refine V2 H315 (want_yes H315 rfl rfl rfl rfl) (op_move rfl (H315.ev rfl)) fun _ H317 => ?_
 refine V2 H317 (want_yes H317 rfl rfl rfl rfl) (op_eqi rfl (H317.ev rfl) (ev_c _ _)) fun _ H319 => ?_
 clear H311 H313 H315 H317
 have H320 := H319.lit (b := true) (by decide)
 clear H319
 refine V H320 (op_pick_t rfl (H320.ev rfl) (H320.ev rfl)) fun _ H322 => ?_
 refine Vm H322 fun _ H324 => ?_
 refine V2 H324 (want_yes H324 rfl rfl rfl rfl) (op_move rfl (H324.ev rfl)) fun _ H326 => ?_
 refine V2 H326 (want_yes H326 rfl rfl rfl rfl) (op_move rfl (H326.ev rfl)) fun _ H328 => ?_
 refine V2 H328 (want_yes H328 rfl rfl rfl rfl) (op_eqi rfl (H328.ev rfl) (H328.ev rfl)) fun _ H330 => ?_
 clear H320 H322 H324 H326 H328
 have H331 := H330.lit (b := true) (by have h1_ := text_lf hyes j (by omega); simp; omega)
 clear H330
 refine V H331 (op_pick_t rfl (H331.ev rfl) (H331.ev rfl)) fun _ H333 => ?_
 refine Va H333 fun _ H335 => ?_
 refine gE hK297 ?_
 refine wp_ret ?_
 clear H331 H333
 refine gw_ret1 H335 rfl rfl ?_
 exact ⟨rfl, O251.below⟩
end GCuts_
export GCuts_ (cuts_walk)
open Classical in
noncomputable def colloquylaw20_SumCuts.f (a0_0 : ByteArray) (a0_1 : ByteArray) (l0_2 : List S46) (a1 : Int) (a2 : ByteArray) : Option Bool := if (szP l0_2) then some true else none
theorem colloquylaw20_SumCuts.calls (a0_0 : ByteArray) (a0_1 : ByteArray) (A0_2 : Option Addr) (c0_2 : Nat) (l0_2 : List S46) (a1 : Int) (a2 : ByteArray) (r : Bool) (w : World) (hr0_2 : Kd.C k46 w A0_2 l0_2.length l0_2) (hc0_2 : l0_2.length ≤ c0_2) (hL : LaidW w) (h : colloquylaw20_SumCuts.f a0_0 a0_1 l0_2 a1 a2 = some r) :
    Calls Tryd.prog 6 #[(.agg #[.string a0_0, .string a0_1, .slice A0_2 l0_2.length c0_2]), (.int .i64 a1), (.string a2)] w fun e w' => e = .returned (.bool r) ∧ Below w.heap.size w w' := by
  unfold colloquylaw20_SumCuts.f at h
  split at h
  · cases h; rename_i hh; exact cuts_walk a0_0 a0_1 A0_2 c0_2 l0_2 a1 a2 w hr0_2 hc0_2 hh hL
  · cases h
section
structure Opens {α : Type} (P : Program) (t : TypeId) (d : Kd α) (good : α → Prop) (wt : α → Nat) (sz : α → Prop) : Prop where
  run : ∀ {H : Type} (enc : TypeId × Value → H) (w : World) (spare : Nat → Bool) (held : Bool) (fuel : Nat) (cs : List Value) (x : DataW H × List MemPlace),
    DataW.trod enc P w 0 spare held fuel t cs = some x → ∃ y : α, d.K w y cs ∧ good y ∧ wt y ≤ Rows.uptoBulk x.1 ∧ ((∀ n ∈ x.1.weights P t, n ≤ reachBytes) → sz y)
structure OpensF {α : Type} (P : Program) (fs : List Field) (off : Nat) (d : Kd α) (good : α → Prop) (wt : α → Nat) (sz : α → Prop) : Prop where
  run : ∀ {H : Type} (enc : TypeId × Value → H) (w : World) (spare : Nat → Bool) (held : Bool) (fuel : Nat) (cs : List Value) (xs : List (DataW H × List MemPlace)),
    (fs.mapM fun f => DataW.trod enc P w 0 spare held fuel f.type ((cs.drop f.offset).take (P.cellsOf f.type))) = some xs →
      ∃ y : α, d.K w y ((cs.drop off).take d.sz) ∧ good y ∧ wt y ≤ Rows.uptoBulkAll (xs.map (·.1)) ∧ ((∀ n ∈ DataW.weightsEach P (fs.map (·.type)) (xs.map (·.1)), n ≤ reachBytes) → sz y)
section
variable {P : Program} {t e : TypeId}
theorem bulk_pos {H : Type} (d : DataW H) : 1 ≤ Rows.uptoBulk d := by
  cases d with
  | lit l => cases l <;> simp [Rows.uptoBulk]
  | nil => simp [Rows.uptoBulk]
  | ptr d => simp [Rows.uptoBulk]
  | slice elems spare => simp [Rows.uptoBulk]
  | agg parts => simp [Rows.uptoBulk]
  | iface t d => simp [Rows.uptoBulk]
  | map entries => simp [Rows.uptoBulk]
  | held h => simp [Rows.uptoBulk]
theorem opens_int {k : IntKind} (ht : P.underlying t = some (.int k)) : Opens P t (Kd.int k) (fun y => (Lit.int k y).wf = true) (fun _ => 1) (fun _ => True) :=
  ⟨fun enc w spare held fuel cs x h => by
    obtain ⟨n, rfl, rfl, hw⟩ := DataW.trod_int ht h
    exact ⟨n, rfl, hw, bulk_pos _, fun _ => trivial⟩⟩
theorem opens_string (ht : P.underlying t = some .string) : Opens P t Kd.string (fun s => s.size ≤ maxLen) (fun s => s.size + 1) (fun s => s.size ≤ reachBytes) :=
  ⟨fun enc w spare held fuel cs x h => by
    obtain ⟨s, rfl, rfl, hs⟩ := DataW.trod_string ht h
    have e : s.data.toList.length = s.size := by rw [Array.length_toList]; rfl
    refine ⟨s, rfl, hs, ?_, fun hn => ?_⟩
    · simp only [Rows.uptoBulk]
      omega
    · rw [← e]
      exact hn _ (by simp [DataW.weights])⟩
theorem bulkAll_map {H : Type} {α : Type} (wt : α → Nat) : ∀ (ds : List (DataW H)) (xs : List α), xs.length = ds.length → (∀ (i : Nat) (x : α) (d : DataW H), xs[i]? = some x → ds[i]? = some d → wt x ≤ Rows.uptoBulk d) → (xs.map wt).sum ≤ Rows.uptoBulkAll ds
  | [], [], _, _ => by simp
  | [], _ :: _, hl, _ => by simp at hl
  | _ :: _, [], hl, _ => by simp at hl
  | d :: ds, x :: xs, hl, h => by
    have h0 := h 0 x d rfl rfl
    have ih := bulkAll_map wt ds xs (by simpa using hl) (fun i x' d' h1 h2 => h (i + 1) x' d' (by simpa using h1) (by simpa using h2))
    simp only [List.map_cons, List.sum_cons, Rows.uptoBulkAll]
    omega
theorem cells_list {w : World} {base : Nat} {a : Addr} {n : Nat} {cs : List Value} (h : w.cells? base a n = some cs) : cs.length = n ∧ ∀ i u, cs[i]? = some u → w.cell? (a.add i) = some u := by
  unfold World.cells? at h
  split at h
  · have hl := mapM_some_length h
    rw [List.length_range] at hl
    refine ⟨hl, fun i u hu => ?_⟩
    have hi : i < n := by
      have := (List.getElem?_eq_some_iff.1 hu).1
      omega
    have := mapM_some_get h i i (by rw [List.getElem?_range hi])
    rw [this]
    exact hu
  · cases h
theorem mem_weightsAll {H : Type} {n : Nat} {d : DataW H} : ∀ {ds : List (DataW H)}, d ∈ ds → n ∈ d.weights P e → n ∈ DataW.weightsAll P e ds
  | [], h, _ => by cases h
  | c :: ds, h, hn => by
    simp only [DataW.weightsAll, List.mem_append]
    rcases List.mem_cons.1 h with rfl | h
    · exact .inl hn
    · exact .inr (mem_weightsAll h hn)
theorem opens_slice {α : Type} [Inhabited α] {d : Kd α} {good : α → Prop} {wt : α → Nat} {sz : α → Prop} {b : Nat} (hby : P.bytesOf e = b) (ht : P.underlying t = some (.slice e)) (hsz : P.cellsOf e = d.sz) (ho : Opens P e d good wt sz) :
    Opens P t (Kd.slice e d) (fun xs => xs.length ≤ maxLen ∧ ∀ x ∈ xs, good x) (fun xs => (xs.map wt).sum + 1) (fun xs => xs.length * b ≤ reachBytes ∧ ∀ x ∈ xs, sz x) :=
  ⟨fun enc w spare held fuel cs x h => by
    rcases Deep.open_slice ht h with ⟨rfl, rfl⟩ | ⟨a, len, cap, m, n, D, Pl, rfl, hb, hl, hm, hmm, rfl, hx⟩
    · refine ⟨[], ⟨none, 0, rfl, Nat.le_refl _, rfl, Nat.zero_le _, fun h => absurd h (by simp)⟩, ⟨by simp [maxLen], fun x hx => by cases hx⟩, by simpa using bulk_pos _, fun _ => ⟨by simp, fun x hx => by cases hx⟩⟩
    · have hlm : len ≤ m := by rw [hmm]; split <;> omega
      have hel : ∀ i : Nat, ∃ y : α, i < len → ∃ cs', w.cells? 0 (a.add (i * P.cellsOf e)) (P.cellsOf e) = some cs' ∧ d.K w y cs' ∧ good y ∧ wt y ≤ Rows.uptoBulk (D i) ∧ ((∀ n ∈ (D i).weights P e, n ≤ reachBytes) → sz y) := by
        intro i
        by_cases hi : i < len
        · obtain ⟨cs', h1, h2⟩ := hx i (by omega)
          obtain ⟨y, hk, hg, hw, hz⟩ := ho.run enc w spare held n cs' _ h2
          exact ⟨y, fun _ => ⟨cs', h1, hk, hg, hw, hz⟩⟩
        · exact ⟨default, fun h => absurd h hi⟩
      obtain ⟨f, hf⟩ := Classical.axiomOfChoice hel
      have hget : ∀ (j : Nat) (p : α), ((List.range len).map f)[j]? = some p → j < len ∧ f j = p := by
        intro j p hj
        have hj' := (List.getElem?_eq_some_iff.1 hj).1
        rw [List.length_map, List.length_range] at hj'
        rw [List.getElem?_map, List.getElem?_range hj'] at hj
        exact ⟨hj', by simpa using hj⟩
      have hlen : ((List.range len).map f).length = len := by rw [List.length_map, List.length_range]
      have hmax : maxLen = 9223372036854775807 := rfl
      refine ⟨(List.range len).map f, ⟨some a, cap, by rw [hlen], by rw [hlen]; exact hl, rfl, by rw [hlen]; omega, fun _ => ⟨a, rfl, fun j p hj => ?_⟩⟩, ⟨by rw [hlen]; omega, fun x hx' => ?_⟩, ?_, fun hn => ⟨?_, fun x hx' => ?_⟩⟩
      · obtain ⟨hj', rfl⟩ := hget j p hj
        obtain ⟨cs', h1, hk, _⟩ := hf j hj'
        obtain ⟨hcl, hcc⟩ := cells_list h1
        refine ⟨cs', by rw [hcl, hsz], hk, fun i u hu => ?_⟩
        have := hcc i u hu
        rwa [Addr.add_add, hsz] at this
      · obtain ⟨i, hi, rfl⟩ := List.mem_map.1 hx'
        obtain ⟨_, _, _, hg, _⟩ := hf i (List.mem_range.1 hi)
        exact hg
      · simp only [Rows.uptoBulk]
        have := bulkAll_map wt ((List.range len).map D) ((List.range len).map f) (by simp) (fun i x' d' h1 h2 => by
          obtain ⟨hi, rfl⟩ := hget i x' h1
          have hd : D i = d' := by
            rw [List.getElem?_map, List.getElem?_range hi] at h2
            simpa using h2
          subst hd
          obtain ⟨_, _, _, _, hw, _⟩ := hf i hi
          exact hw)
        omega
      · simp only [DataW.weights, ht] at hn
        have h1 := hn _ (List.mem_cons_self ..)
        rw [List.length_map, List.length_range, hby] at h1
        rw [hlen]
        exact Nat.le_trans (Nat.mul_le_mul_right b (Nat.le_add_right _ _)) h1
      · simp only [DataW.weights, ht] at hn
        obtain ⟨i, hi, rfl⟩ := List.mem_map.1 hx'
        obtain ⟨_, _, _, _, _, hz⟩ := hf i (List.mem_range.1 hi)
        exact hz fun n hn' => hn n (List.mem_cons_of_mem _ (List.mem_append_left _ (mem_weightsAll (List.mem_map.2 ⟨i, hi, rfl⟩) hn')))⟩
theorem opensF_one {α : Type} {d : Kd α} {good : α → Prop} {wt : α → Nat} {sz : α → Prop} {f : Field} (hsz : P.cellsOf f.type = d.sz) (ho : Opens P f.type d good wt sz) : OpensF P [f] f.offset d good wt sz :=
  ⟨fun enc w spare held fuel cs xs h => by
    simp only [List.mapM_cons, List.mapM_nil] at h
    obtain ⟨x, hx, h2⟩ := Option.bind_eq_some_iff.1 h
    obtain ⟨ys, hys, h3⟩ := Option.bind_eq_some_iff.1 h2
    obtain rfl : [] = ys := by simpa using hys
    obtain rfl : [x] = xs := by simpa using h3
    obtain ⟨y, hk, hg, hw, hz⟩ := ho.run enc w spare held fuel _ x hx
    refine ⟨y, by rw [← hsz]; exact hk, hg, ?_, fun hn => hz fun n h' => hn n ?_⟩
    · simp only [List.map_cons, List.map_nil, Rows.uptoBulkAll]
      omega
    · simp only [List.map_cons, List.map_nil, DataW.weightsEach, List.append_nil]
      exact h'⟩
theorem opensF_cons {α β : Type} {d : Kd α} {d2 : Kd β} {good : α → Prop} {good2 : β → Prop} {wt : α → Nat} {wt2 : β → Nat} {sz : α → Prop} {sz2 : β → Prop} {f : Field} {fs : List Field} {off2 : Nat} (hsz : P.cellsOf f.type = d.sz) (hoff : f.offset + d.sz = off2)
    (ho : Opens P f.type d good wt sz) (h2 : OpensF P fs off2 d2 good2 wt2 sz2) : OpensF P (f :: fs) f.offset (Kd.pair d d2) (fun x => good x.1 ∧ good2 x.2) (fun x => wt x.1 + wt2 x.2) (fun x => sz x.1 ∧ sz2 x.2) :=
  ⟨fun enc w spare held fuel cs xs h => by
    simp only [List.mapM_cons] at h
    obtain ⟨x, hx, h3⟩ := Option.bind_eq_some_iff.1 h
    obtain ⟨ys, hys, h4⟩ := Option.bind_eq_some_iff.1 h3
    obtain rfl : x :: ys = xs := by simpa using h4
    obtain ⟨y, hk, hg, hw, hz⟩ := ho.run enc w spare held fuel _ x hx
    obtain ⟨z, hk2, hg2, hw2, hz2⟩ := h2.run enc w spare held fuel cs ys hys
    refine ⟨(y, z), ⟨(cs.drop f.offset).take d.sz, (cs.drop off2).take d2.sz, ?_, by rw [← hsz]; exact hk, hk2⟩, ⟨hg, hg2⟩, ?_, fun hn => ?_⟩
    · show (cs.drop f.offset).take (d.sz + d2.sz) = _
      rw [List.take_add, List.drop_drop, hoff]
    · simp only [List.map_cons, Rows.uptoBulkAll]
      omega
    · simp only [List.map_cons, DataW.weightsEach] at hn
      exact ⟨hz fun n h' => hn n (List.mem_append_left _ h'), hz2 fun n h' => hn n (List.mem_append_right _ h')⟩⟩
theorem opens_struct {α β : Type} {d : Kd α} {good : α → Prop} {wt : α → Nat} {sz : α → Prop} {fs : Array Field} (f : β → α) (g : α → β) (hfg : ∀ a, f (g a) = a) (ht : P.underlying t = some (.struct fs)) (hsz : P.cellsOf t = d.sz) (ho : OpensF P fs.toList 0 d good wt sz) :
    Opens P t (Kd.iso d f) (fun x => good (f x)) (fun x => wt (f x) + 1) (fun x => sz (f x)) :=
  ⟨fun enc w spare held fuel cs x h => by
    cases fuel with
    | zero => simp [DataW.trod] at h
    | succ n =>
      unfold DataW.trod at h
      rw [ht] at h
      have h' : (if cs.length = P.cellsOf t then (fs.toList.mapM fun f => DataW.trod enc P w 0 spare held n f.type ((cs.drop f.offset).take (P.cellsOf f.type))).map fun xs => (DataW.agg (xs.map (·.1)), xs.flatMap (·.2)) else none) = some x := by
        cases cs with
        | nil => exact h
        | cons c cs => cases cs <;> cases c <;> exact h
      clear h
      split at h'
      · rename_i hl
        obtain ⟨xs, hxs, rfl⟩ := Option.map_eq_some_iff.1 h'
        obtain ⟨y, hk, hg, hw, hz⟩ := ho.run enc w spare held n cs xs hxs
        refine ⟨g y, ?_, by show good (f (g y)); rw [hfg]; exact hg, ?_, fun hn => ?_⟩
        · show d.K w (f (g y)) cs
          rw [hfg]
          rw [List.drop_zero, List.take_of_length_le (by omega)] at hk
          exact hk
        · show wt (f (g y)) + 1 ≤ Rows.uptoBulk (DataW.agg (xs.map (·.1)))
          rw [hfg]
          simp only [Rows.uptoBulk]
          omega
        · show sz (f (g y))
          rw [hfg]
          simp only [DataW.weights, ht] at hn
          exact hz hn
      · cases h'⟩
end
end
structure S24 where
  f0 : ByteArray
  f1 : ByteArray
  f2 : (List S46)
def z24 : S24 := ⟨(⟨#[]⟩ : ByteArray), (⟨#[]⟩ : ByteArray), ([] : List S46)⟩
def k24 : Kd S24 := Kd.iso (Kd.pair Kd.string (Kd.pair Kd.string (Kd.slice 46 k46))) (fun x : S24 => (x.f0, x.f1, x.f2))
theorem k24_open {w : World} {x : S24} {cs : List Value} (h : k24.K w x cs) : ∃ A2 c2, cs = [.string x.f0, .string x.f1, .slice A2 x.f2.length c2] ∧ x.f2.length ≤ c2 ∧ k46.C w A2 x.f2.length x.f2 := by
  obtain ⟨_, _, rfl, rfl, ⟨_, _, rfl, rfl, ⟨A2, c2, rfl, l2, g2⟩⟩⟩ := h
  exact ⟨A2, c2, rfl, l2, g2⟩
instance : Inhabited S49 := ⟨z49⟩
def good49 (x : S49) : Prop := (x.f0).size ≤ maxLen ∧ (Lit.int .i64 (x.f1)).wf = true
def wt49 (x : S49) : Nat := (((x.f0).size + 1) + (1)) + 1
def sz49 (x : S49) : Prop := ((x.f0).size ≤ reachBytes) ∧ True
theorem opens49 : Opens Tryd.prog 49 k49 good49 wt49 sz49 :=
  opens_struct (fun x : S49 => (x.f0, x.f1)) (fun p => ⟨p.1, p.2⟩) (fun _ => rfl) Tryd.underlying49 (by kernel_rfl) (opensF_cons (by kernel_rfl) rfl (opens_string Tryd.underlying9) (opensF_one (by kernel_rfl) (opens_int Tryd.underlying3)))
instance : Inhabited S46 := ⟨z46⟩
def good46 (x : S46) : Prop := (x.f0).size ≤ maxLen ∧ ((x.f1).length ≤ maxLen ∧ ∀ y ∈ x.f1, good49 (y))
def wt46 (x : S46) : Nat := (((x.f0).size + 1) + ((((x.f1).map (fun x => wt49 (x))).sum + 1))) + 1
def sz46 (x : S46) : Prop := ((x.f0).size ≤ reachBytes) ∧ ((x.f1).length * 24 ≤ reachBytes ∧ ∀ y ∈ x.f1, sz49 (y))
theorem opens46 : Opens Tryd.prog 46 k46 good46 wt46 sz46 :=
  opens_struct (fun x : S46 => (x.f0, x.f1)) (fun p => ⟨p.1, p.2⟩) (fun _ => rfl) Tryd.underlying46 (by kernel_rfl) (opensF_cons (by kernel_rfl) rfl (opens_string Tryd.underlying9) (opensF_one (by kernel_rfl) (opens_slice (b := 24) (by kernel_rfl) Tryd.underlying44 (by kernel_rfl) opens49)))
instance : Inhabited S24 := ⟨z24⟩
def good24 (x : S24) : Prop := (x.f0).size ≤ maxLen ∧ (x.f1).size ≤ maxLen ∧ ((x.f2).length ≤ maxLen ∧ ∀ y ∈ x.f2, good46 (y))
def wt24 (x : S24) : Nat := (((x.f0).size + 1) + (((x.f1).size + 1) + ((((x.f2).map (fun x => wt46 (x))).sum + 1)))) + 1
def sz24 (x : S24) : Prop := ((x.f0).size ≤ reachBytes) ∧ ((x.f1).size ≤ reachBytes) ∧ ((x.f2).length * 40 ≤ reachBytes ∧ ∀ y ∈ x.f2, sz46 (y))
theorem opens24 : Opens Tryd.prog 24 k24 good24 wt24 sz24 :=
  opens_struct (fun x : S24 => (x.f0, x.f1, x.f2)) (fun p => ⟨p.1, p.2.1, p.2.2⟩) (fun _ => rfl) Tryd.underlying24 (by kernel_rfl) (opensF_cons (by kernel_rfl) rfl (opens_string Tryd.underlying9) (opensF_cons (by kernel_rfl) rfl (opens_string Tryd.underlying9) (opensF_one (by kernel_rfl) (opens_slice (b := 40) (by kernel_rfl) Tryd.underlying22 (by kernel_rfl) opens46))))
def colloquylaw20_SumCuts.PureU : Prop := ∀ (x0 : S24) (x1 : Int) (x2 : ByteArray), good24 (x0) → (Lit.int .i64 (x1)).wf = true → (x2).size ≤ maxLen → x2.size ≤ 140737488351232 → sz24 (x0) → ∃ _ : Nat, colloquylaw20_SumCuts.f (x0.f0) (x0.f1) (x0.f2) (x1) (x2) = some true
end Go.Proofs.YtljmbgilcngfgaaDoor.PA
section
namespace Go.Proofs.YtljmbgilcngfgaaDoor.Pure
open Go.RowKit Go.Proofs.YtljmbgilcngfgaaDoor.PA
set_option linter.unusedVariables false in
theorem SumCuts : colloquylaw20_SumCuts.PureU := fun x0 x1 x2 _ _ _ h2 hs => ⟨0, if_pos ⟨by have h_ := hs.2.2.1; unfold reachBytes at h_; omega, fun p hp => by have h_ := (hs.2.2.2 p hp).2.1; unfold reachBytes at h_; omega⟩⟩
end Go.Proofs.YtljmbgilcngfgaaDoor.Pure
end
section
namespace Go.Proofs.YtljmbgilcngfgaaDoor.sumCuts
open Go.ChangeShapes Go.WideShapes Go.ChangeAt Go.RowKit
open Go.ChangeMaps (open_string shut_string)
open Go.RowKit Go.Proofs.YtljmbgilcngfgaaDoorW.PrintWords Go.Proofs.YtljmbgilcngfgaaDoorW.PrintLast Go.Proofs.YtljmbgilcngfgaaDoorW.PrintMore Go.Proofs.YtljmbgilcngfgaaDoor.PA
set_option linter.unusedVariables false
set_option linter.unusedSimpArgs false
theorem own : ownKnob Tryd.prog.godebug = none := by kernel_rfl
theorem laidOut : laidOutB Tryd.prog = true := by kernel_rfl
set_option maxRecDepth 100000 in
theorem contract (H : Type) (enc : TypeId × Value → H) (W : World) (base : Nat) (args : Array Value) (ds gs : List (DataW H)) (before : List MemPlace)
    (hval0 : ∀ (j : Nat) t v, Tryd.f6.params[j]? = some t → args[j]? = some v → Value.okWide Tryd.prog W .any base t v)
    (hW : DataW.Whole enc Tryd.prog Tryd.f6.params.toList Rows.sumCutsSpec.vars false W args.toList ds gs before)
    (hsz0 : (DataW.weightsEach Tryd.prog (Tryd.f6.params.toList ++ Rows.sumCutsSpec.plain.varTypes Tryd.prog) (ds ++ gs)).all (· ≤ reachBytes) = true) (hLd : PA.LaidW W) :
    Calls Tryd.prog 6 args W fun e W' => ∃ v, e = .returned v ∧ Rows.sumCutsSpec.post enc Tryd.prog Tryd.f6 false true false false W args v W' := by
  have hsz : (DataW.weightsEach Tryd.prog (Tryd.f6.params.toList ++ Rows.sumCutsSpec.plain.varTypes Tryd.prog) (ds ++ gs)).all (· ≤ reachBytes) = true := hsz0
  have hval : ∀ (j : Nat) t v, Tryd.f6.params[j]? = some t → args[j]? = some v → Value.okWide Tryd.prog W .any base t v := hval0
  have hW' := hW
  obtain ⟨p, q, hA0, hV, rfl, hfz, hnd⟩ := hW
  have hA : DataW.TrodAll enc Tryd.prog W 0 (fun _ => true) true Tryd.f6.params.toList args.toList ds p := hA0
  rw [Tryd.params6] at hA hval hsz
  obtain ⟨v0, vs0, d0, ds0, p0, q0, hargs, rfl, rfl, h0, r0⟩ := trodAll_cons hA
  obtain ⟨v1, vs1, d1, ds1, p1, q1, rfl, rfl, rfl, h1, r1⟩ := trodAll_cons r0
  obtain ⟨v2, vs2, d2, ds2, p2, q2, rfl, rfl, rfl, h2, r2⟩ := trodAll_cons r1
  obtain ⟨rfl, rfl, rfl⟩ := trodAll_nil r2
  obtain rfl : args = #[v0, v1, v2] := by cases args; simp_all
  obtain ⟨rfl, rfl⟩ := trodVars_none hV
  have k0 := h0
  have lt0 : ∀ x ∈ p0, x.block < W.heap.size := by obtain ⟨m, hm⟩ := k0; exact DataW.trod_lt m _ _ _ hm
  obtain ⟨fuel0, hf0⟩ := h0
  obtain ⟨x0, hK0, g0, z0, s00⟩ := opens24.run enc W _ _ fuel0 _ _ hf0
  have s0 := s00 (fun n hn => by have := List.all_eq_true.1 hsz n (DataW.weights_mem_each (j := 0) (t := 24) rfl rfl n hn); simpa using this)
  obtain ⟨cs0, rfl, _⟩ := okWide_struct Tryd.underlying24 (hval 0 24 v0 rfl rfl)
  obtain ⟨A0_2, c0_2, hcs0, hc0_2, hr0_2⟩ := k24_open hK0
  obtain rfl : cs0 = #[.string x0.f0, .string x0.f1, .slice A0_2 x0.f2.length c0_2] := by
    have hcs' : cs0.toList = [.string x0.f0, .string x0.f1, .slice A0_2 x0.f2.length c0_2] := hcs0
    cases cs0; simp_all
  obtain ⟨x1, rfl, rfl, rfl, g1⟩ := open_int Tryd.underlying3 (hval 1 3 v1 rfl rfl) h1
  obtain ⟨x2, rfl, rfl, rfl, g2⟩ := open_string Tryd.underlying9 (hval 2 9 v2 rfl rfl) h2
  have z2 : x2.size ≤ 140737488351232 := by
    have z := sized_string hsz (j := 2) (t := 9) rfl rfl
    rw [Array.length_toList] at z
    exact z
  obtain ⟨k, h⟩ := Pure.SumCuts x0 x1 x2 g0 g1 g2 z2 s0
  refine (PA.colloquylaw20_SumCuts.calls (a0_0 := x0.f0) (a0_1 := x0.f1) (A0_2 := A0_2) (c0_2 := c0_2) (l0_2 := x0.f2) (a1 := x1) (a2 := x2) (r := true) (w := W) (hr0_2 := hr0_2) (hc0_2 := hc0_2) (hL := hLd) (h := h)).mono fun e W' ⟨he, hb⟩ => ?_
  have bel : Below W.heap.size W W' := by first | exact hb | exact Drawn0.below hb
  subst he
  exact ⟨_, rfl, _, _, _, [], _, [], hW', trodAll_mk1 (shut_bool Tryd.underlying4 _), (trodAll_cons_mk (Below.trod laidOut (by kernel_rfl) (of_decide_eq_true (by kernel_rfl)) k0 bel lt0) (trodAll_cons_mk (shut_int Tryd.underlying3 g1) (trodAll_cons_mk (shut_string Tryd.underlying9 g2) trodAll_mk0))), rfl, bel.frame _, fun h => by cases h⟩
set_option maxRecDepth 100000 in
theorem lifted (os : Os) (started : os.Started) (H : Type) (enc : TypeId × Value → H) :
    ReturnsInHanded {} Tryd.checked os 6 .any (fun w args => (Rows.sumCutsSpec.pre enc Tryd.prog Tryd.f6 Rows.sumCutsRow.domain false w args ∧ laidMetH Tryd.prog Rows.sumCutsRow.laid w) ∧ sizedMet enc Tryd.prog Tryd.f6 (OpenSpec.ofChange Rows.sumCutsSpec) false w args)
      (Rows.sumCutsSpec.post enc Tryd.prog Tryd.f6 false true false false) := by
  refine PA.handed_and_shaped (C := Tryd.checked) (X := fun w _ => laidMetH Tryd.prog Rows.sumCutsRow.laid w) (fun _ _ _ hh h => h.of_heap hh) own started (by kernel_rfl) Tryd.func6
    (ChangeSpec.witness_shaped (enc := enc) (C := Tryd.checked) (os := os) (X := fun w _ => laidMetH Tryd.prog Rows.sumCutsRow.laid w) false (World.laidAll Tryd.prog os Rows.sumCutsRow.laid) #[.agg #[.string ByteArray.empty, .string ByteArray.empty, .slice none 0 0], .int .i64 0, .string ByteArray.empty] 8 (World.laidAll_os _ _ _)
      (World.shaped_of_ZipB (by kernel_rfl) (by kernel_rfl)) (by kernel_rfl) (by kernel_rfl) (by kernel_rfl)
      (by rw [MakeChecks.laidMetH_plain _ _ _ (by kernel_rfl)]; exact laidMet_laidAll _ (by kernel_rfl) (by kernel_rfl))) ?_
  intro W base args ds gs before hval hW hsz hx hsh
  exact contract H enc W base args ds gs before hval hW hsz (PA.laid_W hsh (fun w => MakeChecks.laidMetH_plain _ _ w (by kernel_rfl)) (by have e_ : (Lib.tabData .u64 Lib.pow10Tab : DataW Unit) = Rows.laid_internal_strconv_uint64pow10 := (by kernel_rfl); rw [e_]; simp [Rows.sumCutsRow]) hx)
theorem over : Rows.sumCutsRow.holds Tryd.pinned (OpenSpec.ofChange Rows.sumCutsSpec) :=
  OpenClaim.holds_of_wide 6 Tryd.f6 rfl rfl rfl rfl rfl rfl rfl ⟨rfl, rfl, rfl, rfl, rfl⟩ rfl rfl rfl rfl rfl (by kernel_rfl) Tryd.func6 (by kernel_rfl)
    (of_decide_eq_true (by kernel_rfl)) (by unfold Func.isWrapper; first | (rw [if_pos (by decide +kernel)]; kernel_rfl) | (rw [if_neg (by decide +kernel)]; exact ⟨rfl, rfl⟩))
    (fun os started H enc _ => lifted os started H enc)
theorem proved : Rows.SumCutsSaid := over
theorem card_holds : Rows.SumCutsCardSaid :=
  Claim7.holds_tied_plain_at .later [] [.data, .data, .data, .data, .pinned] true (true, "9ec31119e96e43430481a0a0f6c2bb068c6456d675388dc92fd42b455ffcde30") false
    proved (fun _ h => by cases h) (by kernel_rfl) (fun _ h => by cases h) sumCuts_row_tie rfl ⟨rfl, rfl⟩ (by kernel_rfl) rfl
    (fun f fn hf hfn => by
      obtain rfl : f = 6 := Option.some.inj ((show Tryd.prog.funcNamed "colloquy/colloquylaw20.SumCuts" = some 6 by kernel_rfl).symm.trans hf) |>.symm
      obtain rfl : fn = Tryd.f6 := (Option.some.inj (Tryd.func6.symm.trans hfn)).symm
      exact ⟨by kernel_rfl, fun j t ht => by
        have hall : (Tryd.f6.params.toList.all fun u => !Tryd.prog.wantsStandIn u) = true := by kernel_rfl
        have hm : t ∈ Tryd.f6.params.toList := Array.mem_toList_iff.2 (Array.mem_of_getElem? ht)
        exact (show Tryd.prog.wantsStandIn t = false by simpa using List.all_eq_true.1 hall t hm)⟩)
    (by kernel_rfl)
end Go.Proofs.YtljmbgilcngfgaaDoor.sumCuts
namespace Go.Proofs.YtljmbgilcngfgaaDoor
theorem sumCutsCard_holds : Rows.SumCutsCardSaid := sumCuts.card_holds
end Go.Proofs.YtljmbgilcngfgaaDoor
end
