/- The row of the law SumForges: for every input the call returns true and leaves its arguments as they were. Printed by a program of this session. -/
/- What this claim uses of this session's own texts, put together by a program: PAx2 PAx69 PAx1 PAx68 HSumG HSumJ GText GAlive GForges HOpen StmtSumForges PureSumForges LawSumForges. -/
import Derived.Test.YtljmbgilcngfgaaDoorKSumForges2
import Derived.Test.YtljmbgilcngfgaaDoorProg
import Derived.Test.YtljmbgilcngfgaaDoorRows
import Derived.Test.YtljmbgilcngfgaaDoorCards
import Derived.Test.YtljmbgilcngfgaaDoorTie
namespace Go.Proofs.YtljmbgilcngfgaaDoor.PA
open Go.RowKit Go.Proofs.YtljmbgilcngfgaaDoorW.PrintWords Go.Proofs.YtljmbgilcngfgaaDoorW.PrintLast Go.Proofs.YtljmbgilcngfgaaDoorW.PrintMore
set_option linter.unusedVariables false
set_option linter.unusedSimpArgs false
set_option maxRecDepth 100000
set_option maxHeartbeats 8000000
section
attribute [local go_sem] max2_int min2_int max_two min_two max_three min_three max_four min_four   -- for this text's walks alone
def colloquylaw20_of.l0 : Nat → List (S46) → Int → Int → ByteArray → ByteArray → List (S53) → Option (ByteArray × ByteArray × (List (S53)))
  | 0, _, _, _, _, _, _ => none
  | k + 1, x12, x13, x14, x104000, x104001, x104002 => if x14 < x13 then (if 0 ≤ x14 then (if x14 < (x12.length : Int) then (if x104002.length < 3518437208883 then (colloquylaw20_of.l0 k x12 x13 (wrap64 (x14 + 1)) x104000 x104001 (x104002 ++ [(⟨(rd_T46 x12 x14).f0, (rd_T46 x12 x14).f1⟩ : S53)])) else (none)) else (none)) else (none)) else (some (x104000, x104001, x104002))
def colloquylaw20_of.f (k : Nat) (a0_0 : ByteArray) (a0_1 : ByteArray) (l0_2 : List (S46)) : Option (ByteArray × ByteArray × (List (S53))) := colloquylaw20_of.l0 k l0_2 (l0_2.length : Int) 0 a0_0 a0_1 ([] : List (S53))
theorem colloquylaw20_of.mono_l : ∀ k, (∀ y0 y1 y2 y3 y4 y5, LeO (colloquylaw20_of.l0 k y0 y1 y2 y3 y4 y5) (colloquylaw20_of.l0 (k + 1) y0 y1 y2 y3 y4 y5))
  | 0 => fun _ _ _ _ _ _ r h => by simp [colloquylaw20_of.l0] at h
  | k + 1 => by
    have ih0 := colloquylaw20_of.mono_l k
    · intro y0 y1 y2 y3 y4 y5
      unfold colloquylaw20_of.l0
      repeat' first
      | (with_reducible exact ih0 _ _ _ _ _ _)
      | (with_reducible exact LeO.refl _)
      | (with_reducible exact LeO.none _)
      | (with_reducible refine LeO.ite ?_ ?_)
      | (with_reducible refine LeO.bind ?_ (fun _ => ?_))
      | exact ih0 _ _ _ _ _ _
      | exact LeO.none _
      | refine LeO.ite ?_ ?_
      | refine LeO.bind ?_ (fun _ => ?_)
theorem colloquylaw20_of.mono : ∀ a0 a1 a2 k, LeO (colloquylaw20_of.f k a0 a1 a2) (colloquylaw20_of.f (k + 1) a0 a1 a2) := by
  intro a0 a1 a2 k
  have ih0 := colloquylaw20_of.mono_l k
  unfold colloquylaw20_of.f
  repeat' first
      | (with_reducible exact ih0 _ _ _ _ _ _)
      | (with_reducible exact LeO.refl _)
      | (with_reducible exact LeO.none _)
      | (with_reducible refine LeO.ite ?_ ?_)
      | (with_reducible refine LeO.bind ?_ (fun _ => ?_))
      | exact ih0 _ _ _ _ _ _
      | exact LeO.none _
      | refine LeO.ite ?_ ?_
      | refine LeO.bind ?_ (fun _ => ?_)
theorem colloquylaw20_of.calls (k : Nat) (a0_0 : ByteArray) (a0_1 : ByteArray) (P0_2_ : Nat → Prop) (A0_2 : Option Addr) (c0_2 : Nat) (l0_2 : List (S46)) (r1 : ByteArray) (r2 : ByteArray) (r3 : List (S53)) (w : World) (hs0_2 : Kd.V k46 46 w w.heap.size (fun k_ => P0_2_ k_) (.slice A0_2 l0_2.length c0_2) l0_2) (h : colloquylaw20_of.f k a0_0 a0_1 l0_2 = some (r1, r2, r3)) :
    Calls Tryd.prog 11 #[.agg #[.string a0_0, .string a0_1, .slice A0_2 l0_2.length c0_2]] w fun e w' => ∃ v2_ : Value, e = .returned (.agg #[.string r1, .string r2, v2_]) ∧ Kd.N k53 53 w' w.heap.size (fun k_ => (P0_2_ k_ ∨ w.heap.size ≤ k_)) v2_ r3 ∧ Below w.heap.size w w' := by
  have hu24 := Tryd.underlying24
  have hu29 := Tryd.underlying29
  have hu46 := Tryd.underlying46
  have hu53 := Tryd.underlying53
  have HO0_2 := Aside0.mk (show Kd.V k46 46 w w.heap.size (fun k_ => (P0_2_ k_ ∨ w.heap.size ≤ k_)) (.slice A0_2 l0_2.length c0_2) l0_2 from Kd.V_mono hs0_2 (fun k_ hk => .inl hk))
  have HB := Aside0.mk (Below.refl w.heap.size w)
  have H : (colloquylaw20_of.l0 k l0_2 (l0_2.length : Int) 0 a0_0 a0_1 ([] : List (S53))) = some (r1, r2, r3) := h
  clear h
  have H' := Aside0.mk H
  clear H
  go_enter Tryd.func11, Tryd.ntmps11
  go_wp2_with (first | ((with_reducible refine gate_dst (N := 1) rfl ?_); refine box_event ?hg (N := 1) ?hd (cs := #[.string a0_0, .string a0_1, .slice A0_2 l0_2.length c0_2]) (t := 24) ?hr ?_; (case hd => rfl); (case hg => rfl); (case hr => first | (go_simp; done) | (go_simp; rfl)); intro gb101 hg w2 hbox hb; have n0_ := Aside0.mk (Kd.V_below (Kd.V_elderB (by (with_reducible repeat (first | apply Kd.V_alloc | apply Kd.V_drewN | apply Kd.V_drew)); exact HO0_2.out) gb101 (Nat.le_of_eq hg.symm)) hb); have n1_ := Aside0.mk (below_step (by repeat (first | (with_reducible first | exact HB.out | apply below_alloc | apply pw_below_drewN | apply below_drew1) | exact HB.out)) hb); have n2_ := Aside0.mk (hbox); have n3_ := Aside0.mk ((by rw [hg]; exact (below_size (by repeat (first | (with_reducible first | exact HB.out | apply below_alloc | apply pw_below_drewN | apply below_drew1) | exact HB.out))) : w.heap.size ≤ gb101)); have n4_ := Aside0.mk ((by rw [hg]; exact (below_size (by repeat (first | (with_reducible first | exact HB.out | apply below_alloc | apply pw_below_drewN | apply below_drew1) | exact HB.out))) : w.heap.size ≤ gb101)); clear HO0_2; clear HB; have HO0_2 := n0_; have HB := n1_; have BK101 := n2_; have GW101 := n3_; have GE101 := n4_; clear n0_ n1_ n2_ n3_ n4_; clear hb hbox hg) | ((with_reducible refine gate_dst (N := 2) rfl ?_); refine box_event ?hg (N := 2) ?hd (cs := #[.string (⟨#[]⟩ : ByteArray), .string (⟨#[]⟩ : ByteArray), .slice none 0 0]) (t := 29) ?hr ?_; (case hd => rfl); (case hg => rfl); (case hr => first | (go_simp; done) | (go_simp; rfl)); intro gb102 hg w3 hbox hb; have n0_ := Aside0.mk (Kd.V_below (Kd.V_elderB (by (with_reducible repeat (first | apply Kd.V_alloc | apply Kd.V_drewN | apply Kd.V_drew)); exact HO0_2.out) gb102 (Nat.le_of_eq hg.symm)) hb); have n1_ := Aside0.mk (blk_below (g := gb101) (o := .cells #[.string a0_0, .string a0_1, .slice A0_2 l0_2.length c0_2] 24 (0, 0)) (by (with_reducible repeat (first | refine blk_drewN ?_ _ | refine blk_drew ?_ | refine blk_alloc ?_ _)); exact BK101.out) hb); have n2_ := Aside0.mk (below_step (by repeat (first | (with_reducible first | exact HB.out | apply below_alloc | apply pw_below_drewN | apply below_drew1 | refine below_set ?_ GE101.out) | exact HB.out)) hb); have n3_ := Aside0.mk (hbox); have n4_ := Aside0.mk ((by rw [hg]; exact (below_size (by repeat (first | (with_reducible first | exact HB.out | apply below_alloc | apply pw_below_drewN | apply below_drew1 | refine below_set ?_ GE101.out) | exact HB.out))) : w.heap.size ≤ gb102)); have n5_ := Aside0.mk ((by rw [hg]; exact (below_size (by repeat (first | (with_reducible first | exact HB.out | apply below_alloc | apply pw_below_drewN | apply below_drew1 | refine below_set ?_ GE101.out) | exact HB.out))) : w.heap.size ≤ gb102)); have n6_ := Aside0.mk ((by rw [hg]; exact Nat.ne_of_lt (blk_lt (g := gb101) (o := .cells #[.string a0_0, .string a0_1, .slice A0_2 l0_2.length c0_2] 24 (0, 0)) (by (with_reducible repeat (first | refine blk_drewN ?_ _ | refine blk_drew ?_ | refine blk_alloc ?_ _)); exact BK101.out)) : gb101 ≠ gb102)); have n7_ := Aside0.mk ((by rw [hg]; exact Nat.ne_of_gt (blk_lt (g := gb101) (o := .cells #[.string a0_0, .string a0_1, .slice A0_2 l0_2.length c0_2] 24 (0, 0)) (by (with_reducible repeat (first | refine blk_drewN ?_ _ | refine blk_drew ?_ | refine blk_alloc ?_ _)); exact BK101.out)) : gb102 ≠ gb101)); clear HO0_2; clear BK101; clear HB; have HO0_2 := n0_; have BK101 := n1_; have HB := n2_; have BK102 := n3_; have GW102 := n4_; have GE102 := n5_; have NB101_102 := n6_; have NB102_101 := n7_; clear n0_ n1_ n2_ n3_ n4_ n5_ n6_ n7_; clear hb hbox hg; have hnb4 := NB101_102.out; have hnc4 := NB102_101.out; have hcz5_0 : w3.cell? ⟨gb101, 0, none⟩ = some (.string a0_0) := (blk_cell BK101.out 0).trans rfl; have hcz5_1 : w3.cell? ⟨gb101, 1, none⟩ = some (.string a0_1) := (blk_cell BK101.out 1).trans rfl; have hcz5_2 : w3.cell? ⟨gb101, 2, none⟩ = some (.slice A0_2 l0_2.length c0_2) := (blk_cell BK101.out 2).trans rfl; have hfz5_0 := blk_frozen BK101.out 0; have hfz5_1 := blk_frozen BK101.out 1; have hfz5_2 := blk_frozen BK101.out 2) | ((with_reducible refine gate_dst (N := 3) rfl ?_); refine box_event ?hg (N := 3) ?hd (cs := #[.string (⟨#[]⟩ : ByteArray), .string (⟨#[]⟩ : ByteArray), .slice none 0 0]) (t := 29) ?hr ?_; (case hd => rfl); (case hg => rfl); (case hr => first | (go_simp; done) | (go_simp; rfl)); intro gb103 hg w6 hbox hb; have n0_ := Aside0.mk (Kd.V_below (Kd.V_elderB (by (with_reducible repeat (first | apply Kd.V_alloc | apply Kd.V_drewN | apply Kd.V_drew)); exact HO0_2.out) gb103 (Nat.le_of_eq hg.symm)) hb); have n1_ := Aside0.mk (blk_below (g := gb101) (o := .cells #[.string a0_0, .string a0_1, .slice A0_2 l0_2.length c0_2] 24 (0, 0)) (by (with_reducible repeat (first | refine blk_drewN ?_ _ | refine blk_drew ?_ | refine blk_alloc ?_ _)); exact BK101.out) hb); have n2_ := Aside0.mk (blk_below (g := gb102) (o := .cells #[.string (⟨#[]⟩ : ByteArray), .string (⟨#[]⟩ : ByteArray), .slice none 0 0] 29 (0, 0)) (by (with_reducible repeat (first | refine blk_drewN ?_ _ | refine blk_drew ?_ | refine blk_alloc ?_ _)); exact BK102.out) hb); have n3_ := Aside0.mk (below_step (by repeat (first | (with_reducible first | exact HB.out | apply below_alloc | apply pw_below_drewN | apply below_drew1 | refine below_set ?_ GE101.out | refine below_set ?_ GE102.out) | exact HB.out)) hb); have n4_ := Aside0.mk (hbox); have n5_ := Aside0.mk ((by rw [hg]; exact (below_size (by repeat (first | (with_reducible first | exact HB.out | apply below_alloc | apply pw_below_drewN | apply below_drew1 | refine below_set ?_ GE101.out | refine below_set ?_ GE102.out) | exact HB.out))) : w.heap.size ≤ gb103)); have n6_ := Aside0.mk ((by rw [hg]; exact (below_size (by repeat (first | (with_reducible first | exact HB.out | apply below_alloc | apply pw_below_drewN | apply below_drew1 | refine below_set ?_ GE101.out | refine below_set ?_ GE102.out) | exact HB.out))) : w.heap.size ≤ gb103)); have n7_ := Aside0.mk ((by rw [hg]; exact Nat.ne_of_lt (blk_lt (g := gb101) (o := .cells #[.string a0_0, .string a0_1, .slice A0_2 l0_2.length c0_2] 24 (0, 0)) (by (with_reducible repeat (first | refine blk_drewN ?_ _ | refine blk_drew ?_ | refine blk_alloc ?_ _)); exact BK101.out)) : gb101 ≠ gb103)); have n8_ := Aside0.mk ((by rw [hg]; exact Nat.ne_of_gt (blk_lt (g := gb101) (o := .cells #[.string a0_0, .string a0_1, .slice A0_2 l0_2.length c0_2] 24 (0, 0)) (by (with_reducible repeat (first | refine blk_drewN ?_ _ | refine blk_drew ?_ | refine blk_alloc ?_ _)); exact BK101.out)) : gb103 ≠ gb101)); have n9_ := Aside0.mk ((by rw [hg]; exact Nat.ne_of_lt (blk_lt (g := gb102) (o := .cells #[.string (⟨#[]⟩ : ByteArray), .string (⟨#[]⟩ : ByteArray), .slice none 0 0] 29 (0, 0)) (by (with_reducible repeat (first | refine blk_drewN ?_ _ | refine blk_drew ?_ | refine blk_alloc ?_ _)); exact BK102.out)) : gb102 ≠ gb103)); have n10_ := Aside0.mk ((by rw [hg]; exact Nat.ne_of_gt (blk_lt (g := gb102) (o := .cells #[.string (⟨#[]⟩ : ByteArray), .string (⟨#[]⟩ : ByteArray), .slice none 0 0] 29 (0, 0)) (by (with_reducible repeat (first | refine blk_drewN ?_ _ | refine blk_drew ?_ | refine blk_alloc ?_ _)); exact BK102.out)) : gb103 ≠ gb102)); clear HO0_2; clear BK101; clear BK102; clear HB; have HO0_2 := n0_; have BK101 := n1_; have BK102 := n2_; have HB := n3_; have BK103 := n4_; have GW103 := n5_; have GE103 := n6_; have NB101_103 := n7_; have NB103_101 := n8_; have NB102_103 := n9_; have NB103_102 := n10_; clear n0_ n1_ n2_ n3_ n4_ n5_ n6_ n7_ n8_ n9_ n10_; clear hb hbox hg; have hnb7 := NB103_101.out; have hnc7 := NB101_103.out; have hnb8 := NB103_102.out; have hnc8 := NB102_103.out; have hcz9_0 : w6.cell? ⟨gb103, 0, none⟩ = some (.string (⟨#[]⟩ : ByteArray)) := (blk_cell BK103.out 0).trans rfl; have hcz9_1 : w6.cell? ⟨gb103, 1, none⟩ = some (.string (⟨#[]⟩ : ByteArray)) := (blk_cell BK103.out 1).trans rfl; have hcz9_2 : w6.cell? ⟨gb103, 2, none⟩ = some (.slice none 0 0) := (blk_cell BK103.out 2).trans rfl; have hfz9_0 := blk_frozen BK103.out 0; have hfz9_1 := blk_frozen BK103.out 1; have hfz9_2 := blk_frozen BK103.out 2; have hcz10_0 : w6.cell? ⟨gb101, 0, none⟩ = some (.string a0_0) := (blk_cell BK101.out 0).trans rfl; have hcz10_1 : w6.cell? ⟨gb101, 1, none⟩ = some (.string a0_1) := (blk_cell BK101.out 1).trans rfl; have hcz10_2 : w6.cell? ⟨gb101, 2, none⟩ = some (.slice A0_2 l0_2.length c0_2) := (blk_cell BK101.out 2).trans rfl; have hfz10_0 := blk_frozen BK101.out 0; have hfz10_1 := blk_frozen BK101.out 1; have hfz10_2 := blk_frozen BK101.out 2))
  go_loopg [14] k (fun kq v14 w' => ∃ (x14_1 : Int) (x104002_1 : List (S53)) (u104002 : Value), v14 = .int .i64 x14_1 ∧ Aside0 (colloquylaw20_of.l0 kq l0_2 (l0_2.length : Int) x14_1 a0_0 a0_1 x104002_1 = some (r1, r2, r3)) ∧ Aside0 (kq ≤ k) ∧ Aside0 (Kd.V k46 46 w' w.heap.size (fun k_ => (P0_2_ k_ ∨ w.heap.size ≤ k_) ∧ some k_ ≠ (u104002 : Value).ownBlock ∧ k_ ≠ gb101 ∧ k_ ≠ gb102 ∧ k_ ≠ gb103) (.slice A0_2 l0_2.length c0_2) l0_2) ∧ Aside0 (Kd.V k46 46 w' w.heap.size (fun k_ => (P0_2_ k_ ∨ w.heap.size ≤ k_) ∧ some k_ ≠ (u104002 : Value).ownBlock ∧ k_ ≠ gb101 ∧ k_ ≠ gb102 ∧ k_ ≠ gb103) (.slice A0_2 l0_2.length c0_2) l0_2) ∧ Aside0 (Kd.N k53 53 w' w.heap.size (fun k_ => (P0_2_ k_ ∨ w.heap.size ≤ k_) ∧ k_ ≠ gb101 ∧ k_ ≠ gb102 ∧ k_ ≠ gb103) u104002 x104002_1) ∧ Aside0 (w'.heap[gb101]? = some (.cells #[.string a0_0, .string a0_1, (.slice A0_2 l0_2.length c0_2)] 24 (0, 0))) ∧ Aside0 (w'.heap[gb102]? = some (.cells #[.string (⟨#[]⟩ : ByteArray), .string (⟨#[]⟩ : ByteArray), (.slice none 0 0)] 29 (0, 0))) ∧ Aside0 (w'.heap[gb103]? = some (.cells #[.string a0_0, .string a0_1, u104002] 29 (0, 0))) ∧ Aside0 (Below w.heap.size w w'))
  case atStart => exact ⟨(0), (([] : List (S53))), (.slice none 0 0), (by first | rfl | (simp; done) | (simp [*]; done)), H', ⟨Nat.le_refl _⟩, ⟨by (with_reducible repeat (first | apply Kd.V_alloc | apply Kd.V_drewN | apply Kd.V_drew)); exact Kd.V_mono (Kd.V_far (p := ⟨gb103, 2, none⟩) (Kd.V_far (p := ⟨gb103, 1, none⟩) (Kd.V_far (p := ⟨gb103, 0, none⟩) (Kd.V_mono HO0_2.out (fun k_ hk => (⟨hk, hk.2⟩ : _ ∧ k_ ≠ gb103))) (fun _ hk => hk.2) (.string a0_0)) (fun _ hk => hk.2) (.string a0_1)) (fun _ hk => hk.2) (.slice none 0 0)) (fun _ hk => ⟨hk.1.1.1.1, ⟨(by simp [Value.ownBlock]), ⟨hk.1.1.1.2, ⟨hk.1.1.2, hk.1.2⟩⟩⟩⟩)⟩, ⟨by (with_reducible repeat (first | apply Kd.V_alloc | apply Kd.V_drewN | apply Kd.V_drew)); exact Kd.V_mono (Kd.V_far (p := ⟨gb103, 2, none⟩) (Kd.V_far (p := ⟨gb103, 1, none⟩) (Kd.V_far (p := ⟨gb103, 0, none⟩) (Kd.V_mono HO0_2.out (fun k_ hk => (⟨hk, hk.2⟩ : _ ∧ k_ ≠ gb103))) (fun _ hk => hk.2) (.string a0_0)) (fun _ hk => hk.2) (.string a0_1)) (fun _ hk => hk.2) (.slice none 0 0)) (fun _ hk => ⟨hk.1.1.1.1, ⟨(by simp [Value.ownBlock]), ⟨hk.1.1.1.2, ⟨hk.1.1.2, hk.1.2⟩⟩⟩⟩)⟩, ⟨by first | exact Kd.S_nil _ _ _ _ _ | exact Kd.N_nil _ _ _ _ _ | exact Kd.V_nil _ _ _ _ _ | exact Kd.Q_nil _ _ _ _ _ | exact Kd.R_nil _ _ _ _ _⟩, ⟨by (with_reducible repeat (first | refine blk_drewN ?_ _ | refine blk_drew ?_ | refine blk_alloc ?_ _)); refine blk_far ?_ NB101_103.out _; (with_reducible repeat (first | refine blk_drewN ?_ _ | refine blk_drew ?_ | refine blk_alloc ?_ _)); refine blk_far ?_ NB101_103.out _; (with_reducible repeat (first | refine blk_drewN ?_ _ | refine blk_drew ?_ | refine blk_alloc ?_ _)); refine blk_far ?_ NB101_103.out _; (with_reducible repeat (first | refine blk_drewN ?_ _ | refine blk_drew ?_ | refine blk_alloc ?_ _)); exact BK101.out⟩, ⟨by (with_reducible repeat (first | refine blk_drewN ?_ _ | refine blk_drew ?_ | refine blk_alloc ?_ _)); refine blk_far ?_ NB102_103.out _; (with_reducible repeat (first | refine blk_drewN ?_ _ | refine blk_drew ?_ | refine blk_alloc ?_ _)); refine blk_far ?_ NB102_103.out _; (with_reducible repeat (first | refine blk_drewN ?_ _ | refine blk_drew ?_ | refine blk_alloc ?_ _)); refine blk_far ?_ NB102_103.out _; (with_reducible repeat (first | refine blk_drewN ?_ _ | refine blk_drew ?_ | refine blk_alloc ?_ _)); exact BK102.out⟩, ⟨by (with_reducible repeat (first | refine blk_drewN ?_ _ | refine blk_drew ?_ | refine blk_alloc ?_ _)); refine blk_put (cs := #[.string a0_0, .string a0_1, .slice none 0 0]) ?_ 2 _ rfl; (with_reducible repeat (first | refine blk_drewN ?_ _ | refine blk_drew ?_ | refine blk_alloc ?_ _)); refine blk_put (cs := #[.string a0_0, .string (⟨#[]⟩ : ByteArray), .slice none 0 0]) ?_ 1 _ rfl; (with_reducible repeat (first | refine blk_drewN ?_ _ | refine blk_drew ?_ | refine blk_alloc ?_ _)); refine blk_put (cs := #[.string (⟨#[]⟩ : ByteArray), .string (⟨#[]⟩ : ByteArray), .slice none 0 0]) ?_ 0 _ rfl; (with_reducible repeat (first | refine blk_drewN ?_ _ | refine blk_drew ?_ | refine blk_alloc ?_ _)); exact BK103.out⟩, ⟨by repeat (first | (with_reducible first | exact HB.out | apply below_alloc | apply pw_below_drewN | apply below_drew1 | refine below_set ?_ GE101.out | refine below_set ?_ GE102.out | refine below_set ?_ GE103.out) | exact HB.out)⟩⟩
  case round =>
    clear H'
    try clear c1
    try clear p2
    try clear c4
    try clear c7
    try clear c8
    try clear hcz10_0
    try clear hcz10_1
    try clear hcz10_2
    try clear hcz5_0
    try clear hcz5_1
    try clear hcz5_2
    try clear hcz9_0
    try clear hcz9_1
    try clear hcz9_2
    try clear hfz10_0
    try clear hfz10_1
    try clear hfz10_2
    try clear hfz5_0
    try clear hfz5_1
    try clear hfz5_2
    try clear hfz9_0
    try clear hfz9_1
    try clear hfz9_2
    obtain ⟨x14_1, x104002_1, u104002, rfl, HA, HK1, HO_12, HO_102002, HO_104002, BK101, BK102, BK103, HB⟩ := hrel
    cases gk with
    | zero => exact absurd HA.out (by simp [colloquylaw20_of.l0])
    | succ k1 =>
      have H := HA.out
      clear HA
      simp only [colloquylaw20_of.l0] at H
      by_cases c11 : x14_1 < (l0_2.length : Int)
      · rw [if_pos c11] at H
        have c11b0 : decide (x14_1 < (l0_2.length : Int)) = true := decide_eq_true c11
        clear c11
        by_cases c12 : 0 ≤ x14_1
        · rw [if_pos c12] at H
          have c12b0 : decide (0 ≤ x14_1) = true := decide_eq_true c12
          clear c12
          by_cases c13 : x14_1 < (l0_2.length : Int)
          · rw [if_pos c13] at H
            have c13b0 : decide (x14_1 < (l0_2.length : Int)) = true := decide_eq_true c13
            clear c13
            by_cases c14 : x104002_1.length < 3518437208883
            · rw [if_pos c14] at H
              have LMc14 := Aside0.mk c14
              clear c14
              obtain ⟨y106, hy106⟩ : ∃ y_ : List (S53), y_ = (x104002_1 ++ [(⟨(rd_T46 l0_2 x14_1).f0, (rd_T46 l0_2 x14_1).f1⟩ : S53)]) := ⟨_, rfl⟩
              replace H : (colloquylaw20_of.l0 k1 l0_2 (l0_2.length : Int) (wrap64 (x14_1 + 1)) a0_0 a0_1 y106) = some (r1, r2, r3) := by first | (rw [hy106]; with_reducible exact H) | (have H2_ := (Option.bind_some _ _).symm.trans H; rw [hy106]; with_reducible exact H2_) | (have H2_ := (Option.bind_some _ _).symm.trans H; with_reducible exact H2_) | with_reducible exact H | (rw [hy106]; exact H) | exact H
              have Ny106 := Aside0.mk hy106
              clear hy106
              have H' := Aside0.mk H
              clear H
              have p104 : 0 ≤ (x14_1 : Int) := of_decide_eq_true (by first | (with_reducible assumption) | assumption)
              have q104 : x14_1 < (l0_2.length : Int) := of_decide_eq_true (by first | (with_reducible assumption) | assumption)
              obtain ⟨ad104, A104_1, c104_1, e104, hx104_0, hx104_1, hl104_1, hi104_1⟩ := at_T46 (Kd.V_reads' HO_12.out).2.2 x14_1 p104 q104
              cases e104
              obtain ⟨ce104, hce104, hMe104, hcc104⟩ := Kd.V_get HO_12.out z46 x14_1 p104 (by first | exact q104 | exact of_decide_eq_true (by first | (with_reducible assumption) | assumption) | (have e_ := (Kd.V_reads' HO_12.out).1; omega))
              obtain ⟨ua104_1, uc104_1, rfl, ul104_1, ge104_1⟩ := k46_openF hMe104
              have hv104_1 := hcc104 1 _ rfl
              rw [add_field _ _ 1 (by omega)] at hv104_1
              replace hv104_1 := Option.some.inj (hv104_1.symm.trans hx104_1)
              injection hv104_1 with hva_ hvn_ hvc_
              rw [hva_] at ge104_1
              rw [hvc_] at ul104_1
              have HL104_1 := Aside0.mk (show Kd.V k49 49 _ w.heap.size _ _ ((rd_T46 l0_2 x14_1).f1) from Kd.V_mk ul104_1 ge104_1)
              clear hva_ hvn_ hvc_ ge104_1 ul104_1
              clear hcc104 hce104
              have HR104_1 := Aside0.mk hi104_1
              have HC104_1 := Aside0.mk hl104_1
              clear hi104_1 hl104_1
              replace p104 := eq_true p104
              replace q104 := eq_true q104
              go_wp2_with (first | ((with_reducible refine gate_dst (N := 5) rfl ?_); refine box_event ?hg (N := 5) ?hd (cs := #[.string (⟨#[]⟩ : ByteArray), .slice none 0 0]) (t := 46) ?hr ?_; (case hd => rfl); (case hg => rfl); (case hr => first | (go_simp; done) | (go_simp; rfl)); intro gb105 hg w15 hbox hb; have n0_ := Aside0.mk (Kd.V_below (Kd.V_elderB (by (with_reducible repeat (first | apply Kd.V_alloc | apply Kd.V_drewN | apply Kd.V_drew)); exact HO_12.out) gb105 (Nat.le_of_eq hg.symm)) hb); have n1_ := Aside0.mk (Kd.V_below (Kd.V_elderB (by (with_reducible repeat (first | apply Kd.V_alloc | apply Kd.V_drewN | apply Kd.V_drew)); exact HO_102002.out) gb105 (Nat.le_of_eq hg.symm)) hb); have n2_ := Aside0.mk (Kd.N_below (Kd.N_elderB (by (with_reducible repeat (first | apply Kd.N_alloc | apply Kd.N_drewN | apply Kd.N_drew)); exact HO_104002.out) gb105 (Nat.le_of_eq hg.symm)) hb); have n3_ := Aside0.mk (Kd.V_below (Kd.V_elderB (by (with_reducible repeat (first | apply Kd.V_alloc | apply Kd.V_drewN | apply Kd.V_drew)); exact HL104_1.out) gb105 (Nat.le_of_eq hg.symm)) hb); have n4_ := Aside0.mk (blk_below (g := gb101) (o := .cells #[.string a0_0, .string a0_1, .slice (some ad104) l0_2.length c0_2] 24 (0, 0)) (by (with_reducible repeat (first | refine blk_drewN ?_ _ | refine blk_drew ?_ | refine blk_alloc ?_ _)); exact BK101.out) hb); have n5_ := Aside0.mk (blk_below (g := gb102) (o := .cells #[.string (⟨#[]⟩ : ByteArray), .string (⟨#[]⟩ : ByteArray), .slice none 0 0] 29 (0, 0)) (by (with_reducible repeat (first | refine blk_drewN ?_ _ | refine blk_drew ?_ | refine blk_alloc ?_ _)); exact BK102.out) hb); have n6_ := Aside0.mk (blk_below (g := gb103) (o := .cells #[.string a0_0, .string a0_1, u104002] 29 (0, 0)) (by (with_reducible repeat (first | refine blk_drewN ?_ _ | refine blk_drew ?_ | refine blk_alloc ?_ _)); exact BK103.out) hb); have n7_ := Aside0.mk (Kd.C_below (by repeat (first | (with_reducible exact HR104_1.out) | (with_reducible refine Kd.C_alloc ?_ _) | (with_reducible refine Kd.C_drewN ?_ _) | (with_reducible refine Kd.C_drew ?_) | exact HR104_1.out)) hb); have n8_ := Aside0.mk (below_step (by repeat (first | (with_reducible first | exact HB.out | apply below_alloc | apply pw_below_drewN | apply below_drew1 | refine below_set ?_ GE101.out | refine below_set ?_ GE102.out | refine below_set ?_ GE103.out) | exact HB.out)) hb); have n9_ := Aside0.mk (hbox); have n10_ := Aside0.mk ((by rw [hg]; exact (below_size (by repeat (first | (with_reducible first | exact HB.out | apply below_alloc | apply pw_below_drewN | apply below_drew1 | refine below_set ?_ GE101.out | refine below_set ?_ GE102.out | refine below_set ?_ GE103.out) | exact HB.out))) : w.heap.size ≤ gb105)); have n11_ := Aside0.mk ((by rw [hg]; exact (below_size (by repeat (first | (with_reducible first | exact HB.out | apply below_alloc | apply pw_below_drewN | apply below_drew1 | refine below_set ?_ GE101.out | refine below_set ?_ GE102.out | refine below_set ?_ GE103.out) | exact HB.out))) : w.heap.size ≤ gb105)); have n12_ := Aside0.mk ((by rw [hg]; exact Nat.ne_of_lt (blk_lt (g := gb101) (o := .cells #[.string a0_0, .string a0_1, .slice (some ad104) l0_2.length c0_2] 24 (0, 0)) (by (with_reducible repeat (first | refine blk_drewN ?_ _ | refine blk_drew ?_ | refine blk_alloc ?_ _)); exact BK101.out)) : gb101 ≠ gb105)); have n13_ := Aside0.mk ((by rw [hg]; exact Nat.ne_of_gt (blk_lt (g := gb101) (o := .cells #[.string a0_0, .string a0_1, .slice (some ad104) l0_2.length c0_2] 24 (0, 0)) (by (with_reducible repeat (first | refine blk_drewN ?_ _ | refine blk_drew ?_ | refine blk_alloc ?_ _)); exact BK101.out)) : gb105 ≠ gb101)); have n14_ := Aside0.mk ((by rw [hg]; exact Nat.ne_of_lt (blk_lt (g := gb102) (o := .cells #[.string (⟨#[]⟩ : ByteArray), .string (⟨#[]⟩ : ByteArray), .slice none 0 0] 29 (0, 0)) (by (with_reducible repeat (first | refine blk_drewN ?_ _ | refine blk_drew ?_ | refine blk_alloc ?_ _)); exact BK102.out)) : gb102 ≠ gb105)); have n15_ := Aside0.mk ((by rw [hg]; exact Nat.ne_of_gt (blk_lt (g := gb102) (o := .cells #[.string (⟨#[]⟩ : ByteArray), .string (⟨#[]⟩ : ByteArray), .slice none 0 0] 29 (0, 0)) (by (with_reducible repeat (first | refine blk_drewN ?_ _ | refine blk_drew ?_ | refine blk_alloc ?_ _)); exact BK102.out)) : gb105 ≠ gb102)); have n16_ := Aside0.mk ((by rw [hg]; exact Nat.ne_of_lt (blk_lt (g := gb103) (o := .cells #[.string a0_0, .string a0_1, u104002] 29 (0, 0)) (by (with_reducible repeat (first | refine blk_drewN ?_ _ | refine blk_drew ?_ | refine blk_alloc ?_ _)); exact BK103.out)) : gb103 ≠ gb105)); have n17_ := Aside0.mk ((by rw [hg]; exact Nat.ne_of_gt (blk_lt (g := gb103) (o := .cells #[.string a0_0, .string a0_1, u104002] 29 (0, 0)) (by (with_reducible repeat (first | refine blk_drewN ?_ _ | refine blk_drew ?_ | refine blk_alloc ?_ _)); exact BK103.out)) : gb105 ≠ gb103)); clear HO_12; clear HO_102002; clear HO_104002; clear HL104_1; clear BK101; clear BK102; clear BK103; clear HR104_1; clear HB; have HO_12 := n0_; have HO_102002 := n1_; have HO_104002 := n2_; have HL104_1 := n3_; have BK101 := n4_; have BK102 := n5_; have BK103 := n6_; have HR104_1 := n7_; have HB := n8_; have BK105 := n9_; have GW105 := n10_; have GE105 := n11_; have NB101_105 := n12_; have NB105_101 := n13_; have NB102_105 := n14_; have NB105_102 := n15_; have NB103_105 := n16_; have NB105_103 := n17_; clear n0_ n1_ n2_ n3_ n4_ n5_ n6_ n7_ n8_ n9_ n10_ n11_ n12_ n13_ n14_ n15_ n16_ n17_; clear hb hbox hg; have hnb16 := NB105_101.out; have hnc16 := NB101_105.out; have hnb17 := NB105_102.out; have hnc17 := NB102_105.out; have hnb18 := NB105_103.out; have hnc18 := NB103_105.out; have hcz19_0 : w15.cell? ⟨gb105, 0, none⟩ = some (.string (⟨#[]⟩ : ByteArray)) := (blk_cell BK105.out 0).trans rfl; have hcz19_1 : w15.cell? ⟨gb105, 1, none⟩ = some (.slice none 0 0) := (blk_cell BK105.out 1).trans rfl; have hfz19_0 := blk_frozen BK105.out 0; have hfz19_1 := blk_frozen BK105.out 1) | ((with_reducible refine gate_store (t := 46) (p := 5) rfl ?_); refine store_event (t := 46) (p := 5) (v := ?vo_w20) (w1 := ((w15.setCell ⟨gb105, 0, none⟩ (.string ((rd_T46 l0_2 x14_1).f0))).setCell ⟨gb105, 1, none⟩ (.slice A104_1 ((rd_T46 l0_2 x14_1).f1).length c104_1))) ?hg ?ho ?hn ?hr ?_; (case ho => rfl); (case hg => rfl); (case hn => rfl); (case hr => first | (go_simp; done) | (go_simp; rfl)); intro w20 hw; have n0_ : Aside0 (Kd.V k46 46 w20 w.heap.size (fun k_ => (P0_2_ k_ ∨ w.heap.size ≤ k_) ∧ some k_ ≠ (u104002 : Value).ownBlock ∧ k_ ≠ gb101 ∧ k_ ≠ gb102 ∧ k_ ≠ gb103 ∧ k_ ≠ gb105) (.slice (some ad104) l0_2.length c0_2) l0_2) := ⟨(by rw [hw]; exact (by (with_reducible repeat (first | apply Kd.V_alloc | apply Kd.V_drewN | apply Kd.V_drew)); exact Kd.V_mono (Kd.V_far (p := ⟨gb105, 1, none⟩) (Kd.V_far (p := ⟨gb105, 0, none⟩) (Kd.V_mono HO_12.out (fun k_ hk => (⟨hk, hk.2⟩ : _ ∧ k_ ≠ gb105))) (fun _ hk => hk.2) (.string ((rd_T46 l0_2 x14_1).f0))) (fun _ hk => hk.2) (.slice A104_1 ((rd_T46 l0_2 x14_1).f1).length c104_1)) (fun _ hk => ⟨hk.1.1.1, ⟨hk.1.1.2.1, ⟨hk.1.1.2.2.1, ⟨hk.1.1.2.2.2.1, ⟨hk.1.1.2.2.2.2, hk.1.2⟩⟩⟩⟩⟩)))⟩; have n1_ : Aside0 (Kd.V k46 46 w20 w.heap.size (fun k_ => (P0_2_ k_ ∨ w.heap.size ≤ k_) ∧ some k_ ≠ (u104002 : Value).ownBlock ∧ k_ ≠ gb101 ∧ k_ ≠ gb102 ∧ k_ ≠ gb103 ∧ k_ ≠ gb105) (.slice (some ad104) l0_2.length c0_2) l0_2) := ⟨(by rw [hw]; exact (by (with_reducible repeat (first | apply Kd.V_alloc | apply Kd.V_drewN | apply Kd.V_drew)); exact Kd.V_mono (Kd.V_far (p := ⟨gb105, 1, none⟩) (Kd.V_far (p := ⟨gb105, 0, none⟩) (Kd.V_mono HO_102002.out (fun k_ hk => (⟨hk, hk.2⟩ : _ ∧ k_ ≠ gb105))) (fun _ hk => hk.2) (.string ((rd_T46 l0_2 x14_1).f0))) (fun _ hk => hk.2) (.slice A104_1 ((rd_T46 l0_2 x14_1).f1).length c104_1)) (fun _ hk => ⟨hk.1.1.1, ⟨hk.1.1.2.1, ⟨hk.1.1.2.2.1, ⟨hk.1.1.2.2.2.1, ⟨hk.1.1.2.2.2.2, hk.1.2⟩⟩⟩⟩⟩)))⟩; have n2_ : Aside0 (Kd.N k53 53 w20 w.heap.size (fun k_ => (P0_2_ k_ ∨ w.heap.size ≤ k_) ∧ k_ ≠ gb101 ∧ k_ ≠ gb102 ∧ k_ ≠ gb103 ∧ k_ ≠ gb105) u104002 x104002_1) := ⟨(by rw [hw]; exact (by (with_reducible repeat (first | apply Kd.N_alloc | apply Kd.N_drewN | apply Kd.N_drew)); exact Kd.N_mono (Kd.N_far (p := ⟨gb105, 1, none⟩) (Kd.N_far (p := ⟨gb105, 0, none⟩) (Kd.N_mono HO_104002.out (fun k_ hk => (⟨hk, hk.2⟩ : _ ∧ k_ ≠ gb105))) (fun _ hk => hk.2) (.string ((rd_T46 l0_2 x14_1).f0))) (fun _ hk => hk.2) (.slice A104_1 ((rd_T46 l0_2 x14_1).f1).length c104_1)) (fun _ hk => ⟨hk.1.1.1, ⟨hk.1.1.2.1, ⟨hk.1.1.2.2.1, ⟨hk.1.1.2.2.2, hk.1.2⟩⟩⟩⟩)))⟩; have n3_ : Aside0 (Kd.V k49 49 w20 w.heap.size (fun k_ => (P0_2_ k_ ∨ w.heap.size ≤ k_) ∧ some k_ ≠ (u104002 : Value).ownBlock ∧ k_ ≠ gb101 ∧ k_ ≠ gb102 ∧ k_ ≠ gb103 ∧ k_ ≠ gb105) (.slice A104_1 ((rd_T46 l0_2 x14_1).f1).length c104_1) ((rd_T46 l0_2 x14_1).f1)) := ⟨(by rw [hw]; exact (by (with_reducible repeat (first | apply Kd.V_alloc | apply Kd.V_drewN | apply Kd.V_drew)); exact Kd.V_mono (Kd.V_far (p := ⟨gb105, 1, none⟩) (Kd.V_far (p := ⟨gb105, 0, none⟩) (Kd.V_mono HL104_1.out (fun k_ hk => (⟨hk, hk.2⟩ : _ ∧ k_ ≠ gb105))) (fun _ hk => hk.2) (.string ((rd_T46 l0_2 x14_1).f0))) (fun _ hk => hk.2) (.slice A104_1 ((rd_T46 l0_2 x14_1).f1).length c104_1)) (fun _ hk => ⟨hk.1.1.1, ⟨hk.1.1.2.1, ⟨hk.1.1.2.2.1, ⟨hk.1.1.2.2.2.1, ⟨hk.1.1.2.2.2.2, hk.1.2⟩⟩⟩⟩⟩)))⟩; have n4_ : Aside0 (w20.heap[gb101]? = some (.cells #[.string a0_0, .string a0_1, .slice (some ad104) l0_2.length c0_2] 24 (0, 0))) := ⟨(by rw [hw]; exact (by (with_reducible repeat (first | refine blk_drewN ?_ _ | refine blk_drew ?_ | refine blk_alloc ?_ _)); refine blk_far ?_ NB101_105.out _; (with_reducible repeat (first | refine blk_drewN ?_ _ | refine blk_drew ?_ | refine blk_alloc ?_ _)); refine blk_far ?_ NB101_105.out _; (with_reducible repeat (first | refine blk_drewN ?_ _ | refine blk_drew ?_ | refine blk_alloc ?_ _)); exact BK101.out))⟩; have n5_ : Aside0 (w20.heap[gb102]? = some (.cells #[.string (⟨#[]⟩ : ByteArray), .string (⟨#[]⟩ : ByteArray), .slice none 0 0] 29 (0, 0))) := ⟨(by rw [hw]; exact (by (with_reducible repeat (first | refine blk_drewN ?_ _ | refine blk_drew ?_ | refine blk_alloc ?_ _)); refine blk_far ?_ NB102_105.out _; (with_reducible repeat (first | refine blk_drewN ?_ _ | refine blk_drew ?_ | refine blk_alloc ?_ _)); refine blk_far ?_ NB102_105.out _; (with_reducible repeat (first | refine blk_drewN ?_ _ | refine blk_drew ?_ | refine blk_alloc ?_ _)); exact BK102.out))⟩; have n6_ : Aside0 (w20.heap[gb103]? = some (.cells #[.string a0_0, .string a0_1, u104002] 29 (0, 0))) := ⟨(by rw [hw]; exact (by (with_reducible repeat (first | refine blk_drewN ?_ _ | refine blk_drew ?_ | refine blk_alloc ?_ _)); refine blk_far ?_ NB103_105.out _; (with_reducible repeat (first | refine blk_drewN ?_ _ | refine blk_drew ?_ | refine blk_alloc ?_ _)); refine blk_far ?_ NB103_105.out _; (with_reducible repeat (first | refine blk_drewN ?_ _ | refine blk_drew ?_ | refine blk_alloc ?_ _)); exact BK103.out))⟩; have n7_ : Aside0 (w20.heap[gb105]? = some (.cells #[.string ((rd_T46 l0_2 x14_1).f0), .slice A104_1 ((rd_T46 l0_2 x14_1).f1).length c104_1] 46 (0, 0))) := ⟨(by rw [hw]; exact (by (with_reducible repeat (first | refine blk_drewN ?_ _ | refine blk_drew ?_ | refine blk_alloc ?_ _)); refine blk_put (cs := #[.string ((rd_T46 l0_2 x14_1).f0), .slice none 0 0]) ?_ 1 _ rfl; (with_reducible repeat (first | refine blk_drewN ?_ _ | refine blk_drew ?_ | refine blk_alloc ?_ _)); refine blk_put (cs := #[.string (⟨#[]⟩ : ByteArray), .slice none 0 0]) ?_ 0 _ rfl; (with_reducible repeat (first | refine blk_drewN ?_ _ | refine blk_drew ?_ | refine blk_alloc ?_ _)); exact BK105.out))⟩; have n8_ : Aside0 (Below w.heap.size w w20) := ⟨(by rw [hw]; exact (by repeat (first | (with_reducible first | exact HB.out | apply below_alloc | apply pw_below_drewN | apply below_drew1 | refine below_set ?_ GE101.out | refine below_set ?_ GE102.out | refine below_set ?_ GE103.out | refine below_set ?_ GE105.out) | exact HB.out)))⟩; clear hw; clear HO_12; clear HO_102002; clear HO_104002; clear HL104_1; clear BK101; clear BK102; clear BK103; clear BK105; clear HB; have HO_12 := n0_; have HO_102002 := n1_; have HO_104002 := n2_; have HL104_1 := n3_; have BK101 := n4_; have BK102 := n5_; have BK103 := n6_; have BK105 := n7_; have HB := n8_; clear n0_ n1_ n2_ n3_ n4_ n5_ n6_ n7_ n8_; have hnb21 := NB103_101.out; have hnc21 := NB101_103.out; have hnb22 := NB103_102.out; have hnc22 := NB102_103.out; have hcz23_0 : w20.cell? ⟨gb103, 0, none⟩ = some (.string a0_0) := (blk_cell BK103.out 0).trans rfl; have hcz23_1 : w20.cell? ⟨gb103, 1, none⟩ = some (.string a0_1) := (blk_cell BK103.out 1).trans rfl; have hcz23_2 : w20.cell? ⟨gb103, 2, none⟩ = some (u104002) := (blk_cell BK103.out 2).trans rfl; have hfz23_0 := blk_frozen BK103.out 0; have hfz23_1 := blk_frozen BK103.out 1; have hfz23_2 := blk_frozen BK103.out 2; have hcz24_0 : w20.cell? ⟨gb105, 0, none⟩ = some (.string ((rd_T46 l0_2 x14_1).f0)) := (blk_cell BK105.out 0).trans rfl; have hcz24_1 : w20.cell? ⟨gb105, 1, none⟩ = some (.slice A104_1 ((rd_T46 l0_2 x14_1).f1).length c104_1) := (blk_cell BK105.out 1).trans rfl; have hfz24_0 := blk_frozen BK105.out 0; have hfz24_1 := blk_frozen BK105.out 1) | ((with_reducible refine gate_builtin (b := .append) (xs := #[.tmp 19, .tmp 25]) rfl ?_); at_builtin; refine Kd.N_append k53 (w0 := w) w.heap.size rfl (.tmp 19) (.tmp 25) 27 53 (.agg #[(.string ⟨#[]⟩), (.slice none 0 0)]) 40 rfl Tryd.underlying27 info53 rfl (by decide) (by omega) u104002 x104002_1 (⟨(rd_T46 l0_2 x14_1).f0, (rd_T46 l0_2 x14_1).f1⟩ : S53) [.string ((rd_T46 l0_2 x14_1).f0), .slice A104_1 ((rd_T46 l0_2 x14_1).f1).length c104_1] (fun k_ => (P0_2_ k_ ∨ w.heap.size ≤ k_) ∧ k_ ≠ gb101 ∧ k_ ≠ gb102 ∧ k_ ≠ gb103 ∧ k_ ≠ gb105) (fun k_ => ((fun k_ => (P0_2_ k_ ∨ w.heap.size ≤ k_) ∧ k_ ≠ gb101 ∧ k_ ≠ gb102 ∧ k_ ≠ gb103 ∧ k_ ≠ gb105)) k_ ∧ some k_ ≠ (u104002 : Value).ownBlock) rfl rfl ?aP (fun _ hk => hk) ?aF ?aO ?aB ?aS ?aL ?_; (case aP => exact (k53_mkF _ _ (⟨(rd_T46 l0_2 x14_1).f0, (rd_T46 l0_2 x14_1).f1⟩ : S53) (Kd.V_reads' (Kd.V_mono (ok' := (fun k_ => ((fun k_ => (P0_2_ k_ ∨ w.heap.size ≤ k_) ∧ k_ ≠ gb101 ∧ k_ ≠ gb102 ∧ k_ ≠ gb103 ∧ k_ ≠ gb105)) k_ ∧ some k_ ≠ (u104002 : Value).ownBlock)) (HL104_1.out) (fun k_ hk => ⟨⟨hk.1, ⟨hk.2.2.1, ⟨hk.2.2.2.1, ⟨hk.2.2.2.2.1, hk.2.2.2.2.2⟩⟩⟩⟩, hk.2.1⟩))).2.1 (Kd.V_F (Kd.V_mono (ok' := (fun k_ => ((fun k_ => (P0_2_ k_ ∨ w.heap.size ≤ k_) ∧ k_ ≠ gb101 ∧ k_ ≠ gb102 ∧ k_ ≠ gb103 ∧ k_ ≠ gb105)) k_ ∧ some k_ ≠ (u104002 : Value).ownBlock)) (HL104_1.out) (fun k_ hk => ⟨⟨hk.1, ⟨hk.2.2.1, ⟨hk.2.2.2.1, ⟨hk.2.2.2.2.1, hk.2.2.2.2.2⟩⟩⟩⟩, hk.2.1⟩))))); (case aB => exact (by repeat (first | (with_reducible first | exact HB.out | apply below_alloc | apply pw_below_drewN | apply below_drew1 | refine below_set ?_ GE101.out | refine below_set ?_ GE102.out | refine below_set ?_ GE103.out | refine below_set ?_ GE105.out) | exact HB.out))); (case aF => exact (fun k_ hk => ⟨(.inr (Nat.le_trans (below_size (by repeat (first | (with_reducible first | exact HB.out | apply below_alloc | apply pw_below_drewN | apply below_drew1 | refine below_set ?_ GE101.out | refine below_set ?_ GE102.out | refine below_set ?_ GE103.out | refine below_set ?_ GE105.out) | exact HB.out))) hk)), Kd.freshB (g := gb101) (o := .cells #[.string a0_0, .string a0_1, .slice (some ad104) l0_2.length c0_2] 24 (0, 0)) (by (with_reducible repeat (first | refine blk_drewN ?_ _ | refine blk_drew ?_ | refine blk_alloc ?_ _)); exact BK101.out) k_ hk, Kd.freshB (g := gb102) (o := .cells #[.string (⟨#[]⟩ : ByteArray), .string (⟨#[]⟩ : ByteArray), .slice none 0 0] 29 (0, 0)) (by (with_reducible repeat (first | refine blk_drewN ?_ _ | refine blk_drew ?_ | refine blk_alloc ?_ _)); exact BK102.out) k_ hk, Kd.freshB (g := gb103) (o := .cells #[.string a0_0, .string a0_1, u104002] 29 (0, 0)) (by (with_reducible repeat (first | refine blk_drewN ?_ _ | refine blk_drew ?_ | refine blk_alloc ?_ _)); exact BK103.out) k_ hk, Kd.freshB (g := gb105) (o := .cells #[.string ((rd_T46 l0_2 x14_1).f0), .slice A104_1 ((rd_T46 l0_2 x14_1).f1).length c104_1] 46 (0, 0)) (by (with_reducible repeat (first | refine blk_drewN ?_ _ | refine blk_drew ?_ | refine blk_alloc ?_ _)); exact BK105.out) k_ hk⟩)); (case aO => exact (by (with_reducible repeat (first | apply Kd.N_alloc | apply Kd.N_drewN | apply Kd.N_drew)); exact HO_104002.out)); (case aS => exact (below_size (by repeat (first | (with_reducible first | exact HB.out | apply below_alloc | apply pw_below_drewN | apply below_drew1 | refine below_set ?_ GE101.out | refine below_set ?_ GE102.out | refine below_set ?_ GE103.out | refine below_set ?_ GE105.out) | exact HB.out)))); (case aL => have := LMc14.out; omega); intro v107 w25 ho hb hg hat; rw [← Ny106.out] at ho; have n0_ := Aside0.mk (Kd.V_afterv (ok := (fun k_ => (P0_2_ k_ ∨ w.heap.size ≤ k_) ∧ k_ ≠ gb101 ∧ k_ ≠ gb102 ∧ k_ ≠ gb103 ∧ k_ ≠ gb105)) (by (with_reducible repeat (first | apply Kd.V_alloc | apply Kd.V_drewN | apply Kd.V_drew)); exact Kd.V_mono HO_12.out (fun _ hk => ⟨⟨hk.1, ⟨hk.2.2.1, ⟨hk.2.2.2.1, ⟨hk.2.2.2.2.1, hk.2.2.2.2.2⟩⟩⟩⟩, hk.2.1⟩)) hg hat); have n1_ := Aside0.mk (Kd.V_afterv (ok := (fun k_ => (P0_2_ k_ ∨ w.heap.size ≤ k_) ∧ k_ ≠ gb101 ∧ k_ ≠ gb102 ∧ k_ ≠ gb103 ∧ k_ ≠ gb105)) (by (with_reducible repeat (first | apply Kd.V_alloc | apply Kd.V_drewN | apply Kd.V_drew)); exact Kd.V_mono HO_102002.out (fun _ hk => ⟨⟨hk.1, ⟨hk.2.2.1, ⟨hk.2.2.2.1, ⟨hk.2.2.2.2.1, hk.2.2.2.2.2⟩⟩⟩⟩, hk.2.1⟩)) hg hat); have n2_ := Aside0.mk (blk_grown (g := gb101) (o := .cells #[.string a0_0, .string a0_1, .slice (some ad104) l0_2.length c0_2] 24 (0, 0)) (by (with_reducible repeat (first | refine blk_drewN ?_ _ | refine blk_drew ?_ | refine blk_alloc ?_ _)); exact BK101.out) hg (Kd.N_ne HO_104002.out BK101.out (by decide))); have n3_ := Aside0.mk (blk_grown (g := gb102) (o := .cells #[.string (⟨#[]⟩ : ByteArray), .string (⟨#[]⟩ : ByteArray), .slice none 0 0] 29 (0, 0)) (by (with_reducible repeat (first | refine blk_drewN ?_ _ | refine blk_drew ?_ | refine blk_alloc ?_ _)); exact BK102.out) hg (Kd.N_ne HO_104002.out BK102.out (by decide))); have n4_ := Aside0.mk (blk_grown (g := gb103) (o := .cells #[.string a0_0, .string a0_1, u104002] 29 (0, 0)) (by (with_reducible repeat (first | refine blk_drewN ?_ _ | refine blk_drew ?_ | refine blk_alloc ?_ _)); exact BK103.out) hg (Kd.N_ne HO_104002.out BK103.out (by decide))); have n5_ := Aside0.mk (Kd.V_afterv (ok := (fun k_ => (P0_2_ k_ ∨ w.heap.size ≤ k_) ∧ k_ ≠ gb101 ∧ k_ ≠ gb102 ∧ k_ ≠ gb103 ∧ k_ ≠ gb105)) (by (with_reducible repeat (first | apply Kd.V_alloc | apply Kd.V_drewN | apply Kd.V_drew)); exact Kd.V_mono HL104_1.out (fun _ hk => ⟨⟨hk.1, ⟨hk.2.2.1, ⟨hk.2.2.2.1, ⟨hk.2.2.2.2.1, hk.2.2.2.2.2⟩⟩⟩⟩, hk.2.1⟩)) hg hat); have n6_ := Aside0.mk (blk_grown (g := gb105) (o := .cells #[.string ((rd_T46 l0_2 x14_1).f0), .slice A104_1 ((rd_T46 l0_2 x14_1).f1).length c104_1] 46 (0, 0)) (by (with_reducible repeat (first | refine blk_drewN ?_ _ | refine blk_drew ?_ | refine blk_alloc ?_ _)); exact BK105.out) hg (Kd.N_ne HO_104002.out BK105.out (by decide))); have n7_ := Aside0.mk (hb); have n8_ := Aside0.mk (ho); clear HO_12; clear HO_102002; clear BK101; clear BK102; clear BK103; clear HL104_1; clear BK105; clear HB; clear HO_104002; have HO_12 := n0_; have HO_102002 := n1_; have BK101 := n2_; have BK102 := n3_; have BK103 := n4_; have HL104_1 := n5_; have BK105 := n6_; have HB := n7_; have HO108 := n8_; clear n0_ n1_ n2_ n3_ n4_ n5_ n6_ n7_ n8_; clear ho hb hg hat; obtain ⟨Ao26, co26, eo26⟩ := Kd.N_slice HO108.out; subst eo26; have hcz27_0 : w25.cell? ⟨gb103, 0, none⟩ = some (.string a0_0) := (blk_cell BK103.out 0).trans rfl; have hcz27_1 : w25.cell? ⟨gb103, 1, none⟩ = some (.string a0_1) := (blk_cell BK103.out 1).trans rfl; have hcz27_2 : w25.cell? ⟨gb103, 2, none⟩ = some (u104002) := (blk_cell BK103.out 2).trans rfl; have hfz27_0 := blk_frozen BK103.out 0; have hfz27_1 := blk_frozen BK103.out 1; have hfz27_2 := blk_frozen BK103.out 2))
              go_roundg k1
              case measure => have := HK1.out; omega
              case rel => exact ⟨(wrap64 (x14_1 + 1)), (y106), (.slice Ao26 y106.length co26), (by first | rfl | (simp; done) | (simp [*]; done)), H', ⟨by have := HK1.out; omega⟩, ⟨by (with_reducible repeat (first | apply Kd.V_alloc | apply Kd.V_drewN | apply Kd.V_drew)); exact Kd.V_mono (Kd.V_far (p := ⟨gb103, 2, none⟩) (Kd.V_mono HO_12.out (fun k_ hk => (⟨hk, hk.1.2.2.2.1⟩ : _ ∧ k_ ≠ gb103))) (fun _ hk => hk.2) (.slice Ao26 y106.length co26)) (fun _ hk => ⟨hk.1.1.1, ⟨hk.1.2, ⟨hk.1.1.2.1, ⟨hk.1.1.2.2.1, hk.1.1.2.2.2.1⟩⟩⟩⟩)⟩, ⟨by (with_reducible repeat (first | apply Kd.V_alloc | apply Kd.V_drewN | apply Kd.V_drew)); exact Kd.V_mono (Kd.V_far (p := ⟨gb103, 2, none⟩) (Kd.V_mono HO_102002.out (fun k_ hk => (⟨hk, hk.1.2.2.2.1⟩ : _ ∧ k_ ≠ gb103))) (fun _ hk => hk.2) (.slice Ao26 y106.length co26)) (fun _ hk => ⟨hk.1.1.1, ⟨hk.1.2, ⟨hk.1.1.2.1, ⟨hk.1.1.2.2.1, hk.1.1.2.2.2.1⟩⟩⟩⟩)⟩, ⟨by (with_reducible repeat (first | apply Kd.N_alloc | apply Kd.N_drewN | apply Kd.N_drew)); exact Kd.N_mono (Kd.N_far (p := ⟨gb103, 2, none⟩) (Kd.N_mono HO108.out (fun k_ hk => (⟨hk, hk.2.2.2.1⟩ : _ ∧ k_ ≠ gb103))) (fun _ hk => hk.2) (.slice Ao26 y106.length co26)) (fun _ hk => ⟨hk.1.1, ⟨hk.1.2.1, ⟨hk.1.2.2.1, hk.1.2.2.2.1⟩⟩⟩)⟩, ⟨by (with_reducible repeat (first | refine blk_drewN ?_ _ | refine blk_drew ?_ | refine blk_alloc ?_ _)); refine blk_far ?_ NB101_103.out _; (with_reducible repeat (first | refine blk_drewN ?_ _ | refine blk_drew ?_ | refine blk_alloc ?_ _)); exact BK101.out⟩, ⟨by (with_reducible repeat (first | refine blk_drewN ?_ _ | refine blk_drew ?_ | refine blk_alloc ?_ _)); refine blk_far ?_ NB102_103.out _; (with_reducible repeat (first | refine blk_drewN ?_ _ | refine blk_drew ?_ | refine blk_alloc ?_ _)); exact BK102.out⟩, ⟨by (with_reducible repeat (first | refine blk_drewN ?_ _ | refine blk_drew ?_ | refine blk_alloc ?_ _)); refine blk_put (cs := #[.string a0_0, .string a0_1, u104002]) ?_ 2 _ rfl; (with_reducible repeat (first | refine blk_drewN ?_ _ | refine blk_drew ?_ | refine blk_alloc ?_ _)); exact BK103.out⟩, ⟨by repeat (first | (with_reducible first | exact HB.out | apply below_alloc | apply pw_below_drewN | apply below_drew1 | refine below_set ?_ GE101.out | refine below_set ?_ GE102.out | refine below_set ?_ GE103.out | refine below_set ?_ GE105.out) | exact HB.out)⟩⟩
            · rw [if_neg c14] at H
              exact absurd H (by simp)
          · rw [if_neg c13] at H
            exact absurd H (by simp)
        · rw [if_neg c12] at H
          exact absurd H (by simp)
      · rw [if_neg c11] at H
        have c11b0 : decide (x14_1 < (l0_2.length : Int)) = false := decide_eq_false c11
        clear c11
        simp only [Option.some.injEq, Prod.mk.injEq] at H
        obtain ⟨rfl, rfl, rfl⟩ := H
        have hnb28 := NB103_101.out
        have hnc28 := NB101_103.out
        have hnb29 := NB103_102.out
        have hnc29 := NB102_103.out
        have hcz30_0 : wr.cell? ⟨gb103, 0, none⟩ = some (.string a0_0) := (blk_cell BK103.out 0).trans rfl
        have hcz30_1 : wr.cell? ⟨gb103, 1, none⟩ = some (.string a0_1) := (blk_cell BK103.out 1).trans rfl
        have hcz30_2 : wr.cell? ⟨gb103, 2, none⟩ = some (u104002) := (blk_cell BK103.out 2).trans rfl
        have hfz30_0 := blk_frozen BK103.out 0
        have hfz30_1 := blk_frozen BK103.out 1
        have hfz30_2 := blk_frozen BK103.out 2
        have hnb31 := NB102_101.out
        have hnc31 := NB101_102.out
        have hcz32_0 : wr.cell? ⟨gb102, 0, none⟩ = some (.string (⟨#[]⟩ : ByteArray)) := (blk_cell BK102.out 0).trans rfl
        have hcz32_1 : wr.cell? ⟨gb102, 1, none⟩ = some (.string (⟨#[]⟩ : ByteArray)) := (blk_cell BK102.out 1).trans rfl
        have hcz32_2 : wr.cell? ⟨gb102, 2, none⟩ = some (.slice none 0 0) := (blk_cell BK102.out 2).trans rfl
        have hfz32_0 := blk_frozen BK102.out 0
        have hfz32_1 := blk_frozen BK102.out 1
        have hfz32_2 := blk_frozen BK102.out 2
        obtain ⟨Ao33, co33, eo33⟩ := Kd.N_slice HO_104002.out
        subst eo33
        go_wp2
        refine bodyPost_ret (results_cell_row rfl _ _ gb102 29 #[.string a0_0, .string a0_1, .slice Ao33 x104002_1.length co33] (0, 0) _ rfl (by (with_reducible repeat (first | refine blk_drewN ?_ _ | refine blk_drew ?_ | refine blk_alloc ?_ _)); refine blk_put (cs := #[.string a0_0, .string a0_1, .slice none 0 0]) ?_ 2 _ rfl; (with_reducible repeat (first | refine blk_drewN ?_ _ | refine blk_drew ?_ | refine blk_alloc ?_ _)); refine blk_put (cs := #[.string a0_0, .string (⟨#[]⟩ : ByteArray), .slice none 0 0]) ?_ 1 _ rfl; (with_reducible repeat (first | refine blk_drewN ?_ _ | refine blk_drew ?_ | refine blk_alloc ?_ _)); refine blk_put (cs := #[.string (⟨#[]⟩ : ByteArray), .string (⟨#[]⟩ : ByteArray), .slice none 0 0]) ?_ 0 _ rfl; (with_reducible repeat (first | refine blk_drewN ?_ _ | refine blk_drew ?_ | refine blk_alloc ?_ _)); exact BK102.out) Tryd.underlying29 rfl (by kernel_rfl)) rfl ?_
        exact ⟨_, by first | rfl | (simp [errW_none, errW_some] <;> rfl) | (simp [*, errW_none, errW_some] <;> rfl), by (with_reducible repeat (first | apply Kd.N_alloc | apply Kd.N_drewN | apply Kd.N_drew)); exact Kd.N_mono (Kd.N_far (p := ⟨gb102, 2, none⟩) (Kd.N_far (p := ⟨gb102, 1, none⟩) (Kd.N_far (p := ⟨gb102, 0, none⟩) (Kd.N_mono HO_104002.out (fun k_ hk => (⟨hk, hk.2.2.1⟩ : _ ∧ k_ ≠ gb102))) (fun _ hk => hk.2) (.string a0_0)) (fun _ hk => hk.2) (.string a0_1)) (fun _ hk => hk.2) (.slice Ao33 x104002_1.length co33)) (fun _ hk => hk.1.1), by repeat (first | (with_reducible first | exact HB.out | apply below_alloc | apply pw_below_drewN | apply below_drew1 | refine below_set ?_ GE101.out | refine below_set ?_ GE102.out | refine below_set ?_ GE103.out) | exact HB.out)⟩
end
section
attribute [local go_sem] max2_int min2_int max_two min_two max_three min_three max_four min_four   -- for this text's walks alone
def colloquylaw20_first.f  : Option (ByteArray × ByteArray × (List (S46))) := some ((⟨#[115]⟩ : ByteArray), (⟨#[98]⟩ : ByteArray), (([(⟨(⟨#[103]⟩ : ByteArray), (([(⟨(⟨#[116]⟩ : ByteArray), 1⟩ : S49)] : List (S49)))⟩ : S46)] : List (S46))))
theorem colloquylaw20_first.calls  (r1 : ByteArray) (r2 : ByteArray) (r3 : List (S46)) (w : World) (h : colloquylaw20_first.f  = some (r1, r2, r3)) :
    Calls Tryd.prog 21 #[] w fun e w' => ∃ v2_ : Value, e = .returned (.agg #[.string r1, .string r2, v2_]) ∧ Kd.N k46 46 w' w.heap.size (fun k_ => (w.heap.size ≤ k_)) v2_ r3 ∧ Below w.heap.size w w' := by
  have hu24 := Tryd.underlying24
  have hu49 := Tryd.underlying49
  have hu46 := Tryd.underlying46
  have HB := Aside0.mk (Below.refl w.heap.size w)
  have H : (some ((⟨#[115]⟩ : ByteArray), (⟨#[98]⟩ : ByteArray), (([(⟨(⟨#[103]⟩ : ByteArray), (([(⟨(⟨#[116]⟩ : ByteArray), 1⟩ : S49)] : List (S49)))⟩ : S46)] : List (S46))))) = some (r1, r2, r3) := h
  clear h
  obtain ⟨y196, hy196⟩ : ∃ y_ : List (S49), y_ = (([(⟨(⟨#[116]⟩ : ByteArray), 1⟩ : S49)] : List (S49))) := ⟨_, rfl⟩
  replace H : (some ((⟨#[115]⟩ : ByteArray), (⟨#[98]⟩ : ByteArray), (([(⟨(⟨#[103]⟩ : ByteArray), y196⟩ : S46)] : List (S46))))) = some (r1, r2, r3) := by first | (rw [hy196]; with_reducible exact H) | (have H2_ := (Option.bind_some _ _).symm.trans H; rw [hy196]; with_reducible exact H2_) | (have H2_ := (Option.bind_some _ _).symm.trans H; with_reducible exact H2_) | with_reducible exact H | (rw [hy196]; exact H) | exact H
  have Ny196 := Aside0.mk hy196
  clear hy196
  obtain ⟨y199, hy199⟩ : ∃ y_ : List (S46), y_ = (([(⟨(⟨#[103]⟩ : ByteArray), y196⟩ : S46)] : List (S46))) := ⟨_, rfl⟩
  replace H : (some ((⟨#[115]⟩ : ByteArray), (⟨#[98]⟩ : ByteArray), y199)) = some (r1, r2, r3) := by first | (rw [hy199]; with_reducible exact H) | (have H2_ := (Option.bind_some _ _).symm.trans H; rw [hy199]; with_reducible exact H2_) | (have H2_ := (Option.bind_some _ _).symm.trans H; with_reducible exact H2_) | with_reducible exact H | (rw [hy199]; exact H) | exact H
  have Ny199 := Aside0.mk hy199
  clear hy199
  simp only [Option.some.injEq, Prod.mk.injEq] at H
  obtain ⟨rfl, rfl, rfl⟩ := H
  go_enter Tryd.func21, Tryd.ntmps21
  go_wp2_with (first | ((with_reducible refine gate_dst (N := 0) rfl ?_); refine box_event ?hg (N := 0) ?hd (cs := #[.string (⟨#[]⟩ : ByteArray), .string (⟨#[]⟩ : ByteArray), .slice none 0 0]) (t := 24) ?hr ?_; (case hd => rfl); (case hg => rfl); (case hr => first | (go_simp; done) | (go_simp; rfl)); intro gb195 hg w1 hbox hb; have n0_ := Aside0.mk (below_step (by repeat (first | (with_reducible first | exact HB.out | apply below_alloc | apply pw_below_drewN | apply below_drew1) | exact HB.out)) hb); have n1_ := Aside0.mk (hbox); have n2_ := Aside0.mk ((by rw [hg]; exact (below_size (by repeat (first | (with_reducible first | exact HB.out | apply below_alloc | apply pw_below_drewN | apply below_drew1) | exact HB.out))) : w.heap.size ≤ gb195)); have n3_ := Aside0.mk ((by rw [hg]; exact (below_size (by repeat (first | (with_reducible first | exact HB.out | apply below_alloc | apply pw_below_drewN | apply below_drew1) | exact HB.out))) : w.heap.size ≤ gb195)); clear HB; have HB := n0_; have BK195 := n1_; have GW195 := n2_; have GE195 := n3_; clear n0_ n1_ n2_ n3_; clear hb hbox hg) | ((with_reducible refine gate_dst (N := 2) rfl ?_); refine Kd.R_lit k49 _ 49 ?hg (N := 2) ?hd (xs := ([(⟨(⟨#[116]⟩ : ByteArray), 1⟩ : S49)] : List (S49))) (inner := [.string (⟨#[116]⟩ : ByteArray), .int .i64 1]) (ok := fun _ => True) (okp := fun _ => True) ?hr ?hp (fun _ hk => hk) trivial (Below.refl _ _) (Nat.le_refl _) (by simp) ?_; (case hd => rfl); (case hg => rfl); (case hr => first | (go_simp; done) | (go_simp; rfl)); (case hp => exact (Reps.c2 (show Kd.M k49 _ _ _ (⟨(⟨#[116]⟩ : ByteArray), 1⟩ : S49) [.string (⟨#[116]⟩ : ByteArray), .int .i64 1] from (k49_mkM _ _ _ (⟨(⟨#[116]⟩ : ByteArray), 1⟩ : S49) )) (Reps.none _ _))); intro v197 w2 ho3 hb hg_ hnew_; clear hg_ hnew_; (first | rw [← Ny196.out] at ho3 | (simp only [Int.reduceToNat] at ho3; rw [← Ny196.out] at ho3)); have n0_ := Aside0.mk (Kd.R_lower (Kd.R_newM (M := fun k_ => (w.heap.size ≤ k_)) ho3 (below_size (by repeat (first | (with_reducible first | exact HB.out | apply below_alloc | apply pw_below_drewN | apply below_drew1 | refine below_set ?_ GE195.out) | exact HB.out))) (fun k_ h_ => h_)) (below_size (by repeat (first | (with_reducible first | exact HB.out | apply below_alloc | apply pw_below_drewN | apply below_drew1 | refine below_set ?_ GE195.out) | exact HB.out)))); have n1_ := Aside0.mk (blk_below (g := gb195) (o := .cells #[.string (⟨#[]⟩ : ByteArray), .string (⟨#[]⟩ : ByteArray), .slice none 0 0] 24 (0, 0)) (by (with_reducible repeat (first | refine blk_drewN ?_ _ | refine blk_drew ?_ | refine blk_alloc ?_ _)); exact BK195.out) hb); have n2_ := Aside0.mk (below_step (by repeat (first | (with_reducible first | exact HB.out | apply below_alloc | apply pw_below_drewN | apply below_drew1 | refine below_set ?_ GE195.out) | exact HB.out)) hb); clear BK195; clear HB; have HO198 := n0_; have BK195 := n1_; have HB := n2_; clear n0_ n1_ n2_; clear hb ho3; obtain ⟨Ao4, co4, eo4⟩ := Kd.R_slice HO198.out; subst eo4) | ((with_reducible refine gate_dst (N := 4) rfl ?_); refine Kd.N_lit k46 _ 46 ?hg (N' := 4) ?hd (xs := ([(⟨(⟨#[103]⟩ : ByteArray), y196⟩ : S46)] : List (S46))) (inner := [.string (⟨#[103]⟩ : ByteArray), .slice Ao4 y196.length co4]) (ok := (fun k_ => (w.heap.size ≤ k_) ∧ k_ ≠ gb195)) (okp := (fun k_ => (w.heap.size ≤ k_) ∧ k_ ≠ gb195)) ?hr ?hp (fun _ hk => hk) ((show ∀ k_, w2.heap.size ≤ k_ → (fun k_ => (w.heap.size ≤ k_) ∧ k_ ≠ gb195) k_ from fun k_ hk => ⟨(Nat.le_trans (below_size (by repeat (first | (with_reducible first | exact HB.out | apply below_alloc | apply pw_below_drewN | apply below_drew1 | refine below_set ?_ GE195.out) | exact HB.out))) hk), Kd.freshB (g := gb195) (o := .cells #[.string (⟨#[]⟩ : ByteArray), .string (⟨#[]⟩ : ByteArray), .slice none 0 0] 24 (0, 0)) (by (with_reducible repeat (first | refine blk_drewN ?_ _ | refine blk_drew ?_ | refine blk_alloc ?_ _)); exact BK195.out) k_ hk⟩) _ (Nat.le_refl _)) (Below.refl _ _) (Nat.le_refl _) (by simp) ?_; (case hd => rfl); (case hg => rfl); (case hr => first | (go_simp; done) | (go_simp; rfl)); (case hp => exact (Reps.c2 (show Kd.FK k46 _ _ (⟨(⟨#[103]⟩ : ByteArray), y196⟩ : S46) [.string (⟨#[103]⟩ : ByteArray), .slice Ao4 y196.length co4] from (k46_mkF _ _ (⟨(⟨#[103]⟩ : ByteArray), y196⟩ : S46) (Kd.R_reads' (Kd.R_mono (ok' := (fun k_ => (w.heap.size ≤ k_) ∧ k_ ≠ gb195)) (Kd.R_types (HO198.out) BK195.out (by decide)) (fun k_ hk => ⟨hk.1.1, hk.2⟩))).2.1 (Kd.R_F (Kd.R_mono (ok' := (fun k_ => (w.heap.size ≤ k_) ∧ k_ ≠ gb195)) (Kd.R_types (HO198.out) BK195.out (by decide)) (fun k_ hk => ⟨hk.1.1, hk.2⟩))))) (Reps.none _ _))); intro v200 w5 ho6 hb hg_ hnew_; clear hg_ hnew_; (first | rw [← Ny199.out] at ho6 | (simp only [Int.reduceToNat] at ho6; rw [← Ny199.out] at ho6)); have n0_ := Aside0.mk (Kd.N_lower ho6 (below_size (by repeat (first | (with_reducible first | exact HB.out | apply below_alloc | apply pw_below_drewN | apply below_drew1 | refine below_set ?_ GE195.out) | exact HB.out)))); have n1_ := Aside0.mk (blk_below (g := gb195) (o := .cells #[.string (⟨#[]⟩ : ByteArray), .string (⟨#[]⟩ : ByteArray), .slice none 0 0] 24 (0, 0)) (by (with_reducible repeat (first | refine blk_drewN ?_ _ | refine blk_drew ?_ | refine blk_alloc ?_ _)); exact BK195.out) hb); have n2_ := Aside0.mk (below_step (by repeat (first | (with_reducible first | exact HB.out | apply below_alloc | apply pw_below_drewN | apply below_drew1 | refine below_set ?_ GE195.out) | exact HB.out)) hb); clear BK195; clear HB; clear HO198; have HO201 := n0_; have BK195 := n1_; have HB := n2_; clear n0_ n1_ n2_; clear hb ho6; obtain ⟨Ao7, co7, eo7⟩ := Kd.N_slice HO201.out; subst eo7; have hcz8_0 : w5.cell? ⟨gb195, 0, none⟩ = some (.string (⟨#[]⟩ : ByteArray)) := (blk_cell BK195.out 0).trans rfl; have hcz8_1 : w5.cell? ⟨gb195, 1, none⟩ = some (.string (⟨#[]⟩ : ByteArray)) := (blk_cell BK195.out 1).trans rfl; have hcz8_2 : w5.cell? ⟨gb195, 2, none⟩ = some (.slice none 0 0) := (blk_cell BK195.out 2).trans rfl; have hfz8_0 := blk_frozen BK195.out 0; have hfz8_1 := blk_frozen BK195.out 1; have hfz8_2 := blk_frozen BK195.out 2))
  refine bodyPost_ret (results_cell_row rfl _ _ gb195 24 #[.string (⟨#[115]⟩ : ByteArray), .string (⟨#[98]⟩ : ByteArray), .slice Ao7 y199.length co7] (0, 0) _ rfl (by (with_reducible repeat (first | refine blk_drewN ?_ _ | refine blk_drew ?_ | refine blk_alloc ?_ _)); refine blk_put (cs := #[.string (⟨#[115]⟩ : ByteArray), .string (⟨#[98]⟩ : ByteArray), .slice none 0 0]) ?_ 2 _ rfl; (with_reducible repeat (first | refine blk_drewN ?_ _ | refine blk_drew ?_ | refine blk_alloc ?_ _)); refine blk_put (cs := #[.string (⟨#[115]⟩ : ByteArray), .string (⟨#[]⟩ : ByteArray), .slice none 0 0]) ?_ 1 _ rfl; (with_reducible repeat (first | refine blk_drewN ?_ _ | refine blk_drew ?_ | refine blk_alloc ?_ _)); refine blk_put (cs := #[.string (⟨#[]⟩ : ByteArray), .string (⟨#[]⟩ : ByteArray), .slice none 0 0]) ?_ 0 _ rfl; (with_reducible repeat (first | refine blk_drewN ?_ _ | refine blk_drew ?_ | refine blk_alloc ?_ _)); exact BK195.out) Tryd.underlying24 rfl (by kernel_rfl)) rfl ?_
  exact ⟨_, by first | rfl | (simp [errW_none, errW_some] <;> rfl) | (simp [*, errW_none, errW_some] <;> rfl), by (with_reducible repeat (first | apply Kd.N_alloc | apply Kd.N_drewN | apply Kd.N_drew)); exact Kd.N_mono (Kd.N_far (p := ⟨gb195, 2, none⟩) (Kd.N_far (p := ⟨gb195, 1, none⟩) (Kd.N_far (p := ⟨gb195, 0, none⟩) (Kd.N_mono HO201.out (fun k_ hk => (⟨hk, hk.2⟩ : _ ∧ k_ ≠ gb195))) (fun _ hk => hk.2) (.string (⟨#[115]⟩ : ByteArray))) (fun _ hk => hk.2) (.string (⟨#[98]⟩ : ByteArray))) (fun _ hk => hk.2) (.slice Ao7 y199.length co7)) (fun _ hk => hk.1.1), by repeat (first | (with_reducible first | exact HB.out | apply below_alloc | apply pw_below_drewN | apply below_drew1 | refine below_set ?_ GE195.out) | exact HB.out)⟩
end
section
attribute [local go_sem] max2_int min2_int max_two min_two max_three min_three max_four min_four   -- for this text's walks alone
theorem eqA49 (d : Nat) (w : World) (x0 y0 : ByteArray) (x1 y1 : Int) :
    (Op.equalIn (d + 2) 49 (.agg #[.string x0, .int .i64 x1]) (.agg #[.string y0, .int .i64 y1])).run Tryd.prog w = .ok (x0.toList == y0.toList && (x1 == y1)) w := by
  refine eqA_of Tryd.underlying49 (by kernel_rfl) ?_
  refine eqf_cons (by rfl) (by go_simp; rfl) (by go_simp; rfl) (by go_simp) ?_
  exact eqf_last (by rfl) (by go_simp; rfl) (by go_simp; rfl) (by go_simp)
end
section
attribute [local go_sem] max2_int min2_int max_two min_two max_three min_three max_four min_four   -- for this text's walks alone
attribute [local go_sem high] eqA49
mutual
def colloquyref20_Same.j0 : Nat → Bool → ByteArray → ByteArray → List (S53) → ByteArray → ByteArray → List (S53) → Option (Bool)
  | 0, _, _, _, _, _, _, _ => none
  | k + 1, x27, x185000, x185001, x185002, x186000, x186001, x186002 => if x27 = true then (some false) else (colloquyref20_Same.l0 k 0 x185000 x185001 x185002 x186000 x186001 x186002)
def colloquyref20_Same.l0 : Nat → Int → ByteArray → ByteArray → List (S53) → ByteArray → ByteArray → List (S53) → Option (Bool)
  | 0, _, _, _, _, _, _, _ => none
  | k + 1, x5, x185000, x185001, x185002, x186000, x186001, x186002 => if x5 < (x185002.length : Int) then (if 0 ≤ x5 then (if x5 < (x186002.length : Int) then (if ((rd_T53 x185002 x5).f0).toList = ((rd_T53 x186002 x5).f0).toList then (colloquyref20_Same.j2 k x5 ((((rd_T53 x185002 x5).f1).length : Int) != (((rd_T53 x186002 x5).f1).length : Int)) x185000 x185001 x185002 x186000 x186001 x186002) else (colloquyref20_Same.j2 k x5 true x185000 x185001 x185002 x186000 x186001 x186002)) else (none)) else (none)) else (some true)
def colloquyref20_Same.j2 : Nat → Int → Bool → ByteArray → ByteArray → List (S53) → ByteArray → ByteArray → List (S53) → Option (Bool)
  | 0, _, _, _, _, _, _, _, _ => none
  | k + 1, x5, x64, x185000, x185001, x185002, x186000, x186001, x186002 => if x64 = true then (some false) else (colloquyref20_Same.l1 k x5 0 x185000 x185001 x185002 x186000 x186001 x186002)
def colloquyref20_Same.l1 : Nat → Int → Int → ByteArray → ByteArray → List (S53) → ByteArray → ByteArray → List (S53) → Option (Bool)
  | 0, _, _, _, _, _, _, _, _ => none
  | k + 1, x5, x6, x185000, x185001, x185002, x186000, x186001, x186002 => if 0 ≤ x5 then (if x5 < (x185002.length : Int) then (if x6 < (((rd_T53 x185002 x5).f1).length : Int) then (if 0 ≤ x6 then (if x5 < (x186002.length : Int) then (if x6 < (((rd_T53 x186002 x5).f1).length : Int) then (if (!((((rd_T49 ((rd_T53 x185002 x5).f1) x6).f0).toList) == (((rd_T49 ((rd_T53 x186002 x5).f1) x6).f0).toList)) || (!(((rd_T49 ((rd_T53 x185002 x5).f1) x6).f1) == ((rd_T49 ((rd_T53 x186002 x5).f1) x6).f1)))) = true then (some false) else (colloquyref20_Same.l1 k x5 (wrap64 (x6 + 1)) x185000 x185001 x185002 x186000 x186001 x186002)) else (none)) else (none)) else (none)) else (colloquyref20_Same.l0 k (wrap64 (x5 + 1)) x185000 x185001 x185002 x186000 x186001 x186002)) else (none)) else (none)
end
def colloquyref20_Same.f (k : Nat) (a0_0 : ByteArray) (a0_1 : ByteArray) (l0_2 : List (S53)) (a1_0 : ByteArray) (a1_1 : ByteArray) (l1_2 : List (S53)) : Option (Bool) := if a0_0.toList = a1_0.toList then (if a0_1.toList = a1_1.toList then (colloquyref20_Same.j0 k ((l0_2.length : Int) != (l1_2.length : Int)) a0_0 a0_1 l0_2 a1_0 a1_1 l1_2) else (colloquyref20_Same.j0 k true a0_0 a0_1 l0_2 a1_0 a1_1 l1_2)) else (colloquyref20_Same.j0 k true a0_0 a0_1 l0_2 a1_0 a1_1 l1_2)
theorem colloquyref20_Same.mono_l : ∀ k, (∀ y0 y1 y2 y3 y4 y5 y6, LeO (colloquyref20_Same.j0 k y0 y1 y2 y3 y4 y5 y6) (colloquyref20_Same.j0 (k + 1) y0 y1 y2 y3 y4 y5 y6)) ∧ (∀ y0 y1 y2 y3 y4 y5 y6, LeO (colloquyref20_Same.l0 k y0 y1 y2 y3 y4 y5 y6) (colloquyref20_Same.l0 (k + 1) y0 y1 y2 y3 y4 y5 y6)) ∧ (∀ y0 y1 y2 y3 y4 y5 y6 y7, LeO (colloquyref20_Same.j2 k y0 y1 y2 y3 y4 y5 y6 y7) (colloquyref20_Same.j2 (k + 1) y0 y1 y2 y3 y4 y5 y6 y7)) ∧ (∀ y0 y1 y2 y3 y4 y5 y6 y7, LeO (colloquyref20_Same.l1 k y0 y1 y2 y3 y4 y5 y6 y7) (colloquyref20_Same.l1 (k + 1) y0 y1 y2 y3 y4 y5 y6 y7))
  | 0 => ⟨fun _ _ _ _ _ _ _ r h => by simp [colloquyref20_Same.j0] at h, fun _ _ _ _ _ _ _ r h => by simp [colloquyref20_Same.l0] at h, fun _ _ _ _ _ _ _ _ r h => by simp [colloquyref20_Same.j2] at h, fun _ _ _ _ _ _ _ _ r h => by simp [colloquyref20_Same.l1] at h⟩
  | k + 1 => by
    obtain ⟨ih0, ih1, ih2, ih3⟩ := colloquyref20_Same.mono_l k
    refine ⟨?_, ?_, ?_, ?_⟩
    · intro y0 y1 y2 y3 y4 y5 y6
      unfold colloquyref20_Same.j0
      repeat' first
      | (with_reducible exact ih0 _ _ _ _ _ _ _)
      | (with_reducible exact ih1 _ _ _ _ _ _ _)
      | (with_reducible exact ih2 _ _ _ _ _ _ _ _)
      | (with_reducible exact ih3 _ _ _ _ _ _ _ _)
      | (with_reducible exact LeO.refl _)
      | (with_reducible exact LeO.none _)
      | (with_reducible refine LeO.ite ?_ ?_)
      | (with_reducible refine LeO.bind ?_ (fun _ => ?_))
      | exact ih0 _ _ _ _ _ _ _
      | exact ih1 _ _ _ _ _ _ _
      | exact ih2 _ _ _ _ _ _ _ _
      | exact ih3 _ _ _ _ _ _ _ _
      | exact LeO.none _
      | refine LeO.ite ?_ ?_
      | refine LeO.bind ?_ (fun _ => ?_)
    · intro y0 y1 y2 y3 y4 y5 y6
      unfold colloquyref20_Same.l0
      repeat' first
      | (with_reducible exact ih0 _ _ _ _ _ _ _)
      | (with_reducible exact ih1 _ _ _ _ _ _ _)
      | (with_reducible exact ih2 _ _ _ _ _ _ _ _)
      | (with_reducible exact ih3 _ _ _ _ _ _ _ _)
      | (with_reducible exact LeO.refl _)
      | (with_reducible exact LeO.none _)
      | (with_reducible refine LeO.ite ?_ ?_)
      | (with_reducible refine LeO.bind ?_ (fun _ => ?_))
      | exact ih0 _ _ _ _ _ _ _
      | exact ih1 _ _ _ _ _ _ _
      | exact ih2 _ _ _ _ _ _ _ _
      | exact ih3 _ _ _ _ _ _ _ _
      | exact LeO.none _
      | refine LeO.ite ?_ ?_
      | refine LeO.bind ?_ (fun _ => ?_)
    · intro y0 y1 y2 y3 y4 y5 y6 y7
      unfold colloquyref20_Same.j2
      repeat' first
      | (with_reducible exact ih0 _ _ _ _ _ _ _)
      | (with_reducible exact ih1 _ _ _ _ _ _ _)
      | (with_reducible exact ih2 _ _ _ _ _ _ _ _)
      | (with_reducible exact ih3 _ _ _ _ _ _ _ _)
      | (with_reducible exact LeO.refl _)
      | (with_reducible exact LeO.none _)
      | (with_reducible refine LeO.ite ?_ ?_)
      | (with_reducible refine LeO.bind ?_ (fun _ => ?_))
      | exact ih0 _ _ _ _ _ _ _
      | exact ih1 _ _ _ _ _ _ _
      | exact ih2 _ _ _ _ _ _ _ _
      | exact ih3 _ _ _ _ _ _ _ _
      | exact LeO.none _
      | refine LeO.ite ?_ ?_
      | refine LeO.bind ?_ (fun _ => ?_)
    · intro y0 y1 y2 y3 y4 y5 y6 y7
      unfold colloquyref20_Same.l1
      repeat' first
      | (with_reducible exact ih0 _ _ _ _ _ _ _)
      | (with_reducible exact ih1 _ _ _ _ _ _ _)
      | (with_reducible exact ih2 _ _ _ _ _ _ _ _)
      | (with_reducible exact ih3 _ _ _ _ _ _ _ _)
      | (with_reducible exact LeO.refl _)
      | (with_reducible exact LeO.none _)
      | (with_reducible refine LeO.ite ?_ ?_)
      | (with_reducible refine LeO.bind ?_ (fun _ => ?_))
      | exact ih0 _ _ _ _ _ _ _
      | exact ih1 _ _ _ _ _ _ _
      | exact ih2 _ _ _ _ _ _ _ _
      | exact ih3 _ _ _ _ _ _ _ _
      | exact LeO.none _
      | refine LeO.ite ?_ ?_
      | refine LeO.bind ?_ (fun _ => ?_)
theorem colloquyref20_Same.mono : ∀ a0 a1 a2 a3 a4 a5 k, LeO (colloquyref20_Same.f k a0 a1 a2 a3 a4 a5) (colloquyref20_Same.f (k + 1) a0 a1 a2 a3 a4 a5) := by
  intro a0 a1 a2 a3 a4 a5 k
  obtain ⟨ih0, ih1, ih2, ih3⟩ := colloquyref20_Same.mono_l k
  unfold colloquyref20_Same.f
  repeat' first
      | (with_reducible exact ih0 _ _ _ _ _ _ _)
      | (with_reducible exact ih1 _ _ _ _ _ _ _)
      | (with_reducible exact ih2 _ _ _ _ _ _ _ _)
      | (with_reducible exact ih3 _ _ _ _ _ _ _ _)
      | (with_reducible exact LeO.refl _)
      | (with_reducible exact LeO.none _)
      | (with_reducible refine LeO.ite ?_ ?_)
      | (with_reducible refine LeO.bind ?_ (fun _ => ?_))
      | exact ih0 _ _ _ _ _ _ _
      | exact ih1 _ _ _ _ _ _ _
      | exact ih2 _ _ _ _ _ _ _ _
      | exact ih3 _ _ _ _ _ _ _ _
      | exact LeO.none _
      | refine LeO.ite ?_ ?_
      | refine LeO.bind ?_ (fun _ => ?_)
theorem colloquyref20_Same.calls (k : Nat) (a0_0 : ByteArray) (a0_1 : ByteArray) (A0_2 : Option Addr) (c0_2 : Nat) (l0_2 : List (S53)) (a1_0 : ByteArray) (a1_1 : ByteArray) (A1_2 : Option Addr) (c1_2 : Nat) (l1_2 : List (S53)) (r : Bool) (w : World) (hr0_2 : Kd.C k53 w A0_2 l0_2.length l0_2) (hc0_2 : l0_2.length ≤ c0_2) (hr1_2 : Kd.C k53 w A1_2 l1_2.length l1_2) (hc1_2 : l1_2.length ≤ c1_2) (h : colloquyref20_Same.f k a0_0 a0_1 l0_2 a1_0 a1_1 l1_2 = some r) :
    Calls Tryd.prog 20 #[.agg #[.string a0_0, .string a0_1, .slice A0_2 l0_2.length c0_2], .agg #[.string a1_0, .string a1_1, .slice A1_2 l1_2.length c1_2]] w fun e w' => e = .returned (.bool r) ∧ Below w.heap.size w w' := by
  have hu29 := Tryd.underlying29
  have hu49 := Tryd.underlying49
  have HR0_2 := Aside0.mk hr0_2
  have HC0_2 := Aside0.mk hc0_2
  clear hr0_2 hc0_2
  have HR1_2 := Aside0.mk hr1_2
  have HC1_2 := Aside0.mk hc1_2
  clear hr1_2 hc1_2
  have HB := Aside0.mk (Below.refl w.heap.size w)
  have H : (if a0_0.toList = a1_0.toList then (if a0_1.toList = a1_1.toList then (colloquyref20_Same.j0 k ((l0_2.length : Int) != (l1_2.length : Int)) a0_0 a0_1 l0_2 a1_0 a1_1 l1_2) else (colloquyref20_Same.j0 k true a0_0 a0_1 l0_2 a1_0 a1_1 l1_2)) else (colloquyref20_Same.j0 k true a0_0 a0_1 l0_2 a1_0 a1_1 l1_2)) = some r := h
  clear h
  have HC3 := Aside0.mk H
  clear H
  go_enter Tryd.func20, Tryd.ntmps20
  go_upto_region 1 with (first | ((with_reducible refine gate_dst (N := 2) rfl ?_); (try (refine gate_guard (by rfl) ?_; dsimp only)); refine box_event ?hg (N := 2) ?hd (cs := #[.string a0_0, .string a0_1, .slice A0_2 l0_2.length c0_2]) (t := 29) ?hr ?_; (case hd => rfl); (case hg => rfl); (case hr => first | (go_simp; done) | (go_simp; rfl)); intro gb184 hg w4 hbox hb; have n0_ := Aside0.mk (below_step (by repeat (first | (with_reducible first | exact HB.out | apply below_alloc | apply pw_below_drewN | apply below_drew1) | exact HB.out)) hb); have n1_ := Aside0.mk (hbox); have n2_ := Aside0.mk ((by rw [hg]; exact (below_size (by repeat (first | (with_reducible first | exact HB.out | apply below_alloc | apply pw_below_drewN | apply below_drew1) | exact HB.out))) : w.heap.size ≤ gb184)); have n3_ := Aside0.mk ((by rw [hg]; exact (below_size (by repeat (first | (with_reducible first | exact HB.out | apply below_alloc | apply pw_below_drewN | apply below_drew1) | exact HB.out))) : w.heap.size ≤ gb184)); clear HB; have HB := n0_; have BK184 := n1_; have GW184 := n2_; have GE184 := n3_; clear n0_ n1_ n2_ n3_; clear hb hbox hg) | ((with_reducible refine gate_dst (N := 3) rfl ?_); (try (refine gate_guard (by rfl) ?_; dsimp only)); refine box_event ?hg (N := 3) ?hd (cs := #[.string a1_0, .string a1_1, .slice A1_2 l1_2.length c1_2]) (t := 29) ?hr ?_; (case hd => rfl); (case hg => rfl); (case hr => first | (go_simp; done) | (go_simp; rfl)); intro gb185 hg w5 hbox hb; have n0_ := Aside0.mk (blk_below (g := gb184) (o := .cells #[.string a0_0, .string a0_1, .slice A0_2 l0_2.length c0_2] 29 (0, 0)) (by (with_reducible repeat (first | refine blk_drewN ?_ _ | refine blk_drew ?_ | refine blk_alloc ?_ _)); exact BK184.out) hb); have n1_ := Aside0.mk (below_step (by repeat (first | (with_reducible first | exact HB.out | apply below_alloc | apply pw_below_drewN | apply below_drew1 | refine below_set ?_ GE184.out) | exact HB.out)) hb); have n2_ := Aside0.mk (hbox); have n3_ := Aside0.mk ((by rw [hg]; exact (below_size (by repeat (first | (with_reducible first | exact HB.out | apply below_alloc | apply pw_below_drewN | apply below_drew1 | refine below_set ?_ GE184.out) | exact HB.out))) : w.heap.size ≤ gb185)); have n4_ := Aside0.mk ((by rw [hg]; exact (below_size (by repeat (first | (with_reducible first | exact HB.out | apply below_alloc | apply pw_below_drewN | apply below_drew1 | refine below_set ?_ GE184.out) | exact HB.out))) : w.heap.size ≤ gb185)); have n5_ := Aside0.mk ((by rw [hg]; exact Nat.ne_of_lt (blk_lt (g := gb184) (o := .cells #[.string a0_0, .string a0_1, .slice A0_2 l0_2.length c0_2] 29 (0, 0)) (by (with_reducible repeat (first | refine blk_drewN ?_ _ | refine blk_drew ?_ | refine blk_alloc ?_ _)); exact BK184.out)) : gb184 ≠ gb185)); have n6_ := Aside0.mk ((by rw [hg]; exact Nat.ne_of_gt (blk_lt (g := gb184) (o := .cells #[.string a0_0, .string a0_1, .slice A0_2 l0_2.length c0_2] 29 (0, 0)) (by (with_reducible repeat (first | refine blk_drewN ?_ _ | refine blk_drew ?_ | refine blk_alloc ?_ _)); exact BK184.out)) : gb185 ≠ gb184)); clear BK184; clear HB; have BK184 := n0_; have HB := n1_; have BK185 := n2_; have GW185 := n3_; have GE185 := n4_; have NB184_185 := n5_; have NB185_184 := n6_; clear n0_ n1_ n2_ n3_ n4_ n5_ n6_; clear hb hbox hg))
  repeat (go_quiet (first | ((with_reducible refine gate_dst (N := 2) rfl ?_); (try (refine gate_guard (by rfl) ?_; dsimp only)); refine box_event ?hg (N := 2) ?hd (cs := #[.string a0_0, .string a0_1, .slice A0_2 l0_2.length c0_2]) (t := 29) ?hr ?_; (case hd => rfl); (case hg => rfl); (case hr => first | (go_simp; done) | (go_simp; rfl)); intro gb184 hg w4 hbox hb; have n0_ := Aside0.mk (below_step (by repeat (first | (with_reducible first | exact HB.out | apply below_alloc | apply pw_below_drewN | apply below_drew1) | exact HB.out)) hb); have n1_ := Aside0.mk (hbox); have n2_ := Aside0.mk ((by rw [hg]; exact (below_size (by repeat (first | (with_reducible first | exact HB.out | apply below_alloc | apply pw_below_drewN | apply below_drew1) | exact HB.out))) : w.heap.size ≤ gb184)); have n3_ := Aside0.mk ((by rw [hg]; exact (below_size (by repeat (first | (with_reducible first | exact HB.out | apply below_alloc | apply pw_below_drewN | apply below_drew1) | exact HB.out))) : w.heap.size ≤ gb184)); clear HB; have HB := n0_; have BK184 := n1_; have GW184 := n2_; have GE184 := n3_; clear n0_ n1_ n2_ n3_; clear hb hbox hg) | ((with_reducible refine gate_dst (N := 3) rfl ?_); (try (refine gate_guard (by rfl) ?_; dsimp only)); refine box_event ?hg (N := 3) ?hd (cs := #[.string a1_0, .string a1_1, .slice A1_2 l1_2.length c1_2]) (t := 29) ?hr ?_; (case hd => rfl); (case hg => rfl); (case hr => first | (go_simp; done) | (go_simp; rfl)); intro gb185 hg w5 hbox hb; have n0_ := Aside0.mk (blk_below (g := gb184) (o := .cells #[.string a0_0, .string a0_1, .slice A0_2 l0_2.length c0_2] 29 (0, 0)) (by (with_reducible repeat (first | refine blk_drewN ?_ _ | refine blk_drew ?_ | refine blk_alloc ?_ _)); exact BK184.out) hb); have n1_ := Aside0.mk (below_step (by repeat (first | (with_reducible first | exact HB.out | apply below_alloc | apply pw_below_drewN | apply below_drew1 | refine below_set ?_ GE184.out) | exact HB.out)) hb); have n2_ := Aside0.mk (hbox); have n3_ := Aside0.mk ((by rw [hg]; exact (below_size (by repeat (first | (with_reducible first | exact HB.out | apply below_alloc | apply pw_below_drewN | apply below_drew1 | refine below_set ?_ GE184.out) | exact HB.out))) : w.heap.size ≤ gb185)); have n4_ := Aside0.mk ((by rw [hg]; exact (below_size (by repeat (first | (with_reducible first | exact HB.out | apply below_alloc | apply pw_below_drewN | apply below_drew1 | refine below_set ?_ GE184.out) | exact HB.out))) : w.heap.size ≤ gb185)); have n5_ := Aside0.mk ((by rw [hg]; exact Nat.ne_of_lt (blk_lt (g := gb184) (o := .cells #[.string a0_0, .string a0_1, .slice A0_2 l0_2.length c0_2] 29 (0, 0)) (by (with_reducible repeat (first | refine blk_drewN ?_ _ | refine blk_drew ?_ | refine blk_alloc ?_ _)); exact BK184.out)) : gb184 ≠ gb185)); have n6_ := Aside0.mk ((by rw [hg]; exact Nat.ne_of_gt (blk_lt (g := gb184) (o := .cells #[.string a0_0, .string a0_1, .slice A0_2 l0_2.length c0_2] 29 (0, 0)) (by (with_reducible repeat (first | refine blk_drewN ?_ _ | refine blk_drew ?_ | refine blk_alloc ?_ _)); exact BK184.out)) : gb185 ≠ gb184)); clear BK184; clear HB; have BK184 := n0_; have HB := n1_; have BK185 := n2_; have GW185 := n3_; have GE185 := n4_; have NB184_185 := n5_; have NB185_184 := n6_; clear n0_ n1_ n2_ n3_ n4_ n5_ n6_; clear hb hbox hg)); go_upto_region 1 with (first | ((with_reducible refine gate_dst (N := 2) rfl ?_); (try (refine gate_guard (by rfl) ?_; dsimp only)); refine box_event ?hg (N := 2) ?hd (cs := #[.string a0_0, .string a0_1, .slice A0_2 l0_2.length c0_2]) (t := 29) ?hr ?_; (case hd => rfl); (case hg => rfl); (case hr => first | (go_simp; done) | (go_simp; rfl)); intro gb184 hg w4 hbox hb; have n0_ := Aside0.mk (below_step (by repeat (first | (with_reducible first | exact HB.out | apply below_alloc | apply pw_below_drewN | apply below_drew1) | exact HB.out)) hb); have n1_ := Aside0.mk (hbox); have n2_ := Aside0.mk ((by rw [hg]; exact (below_size (by repeat (first | (with_reducible first | exact HB.out | apply below_alloc | apply pw_below_drewN | apply below_drew1) | exact HB.out))) : w.heap.size ≤ gb184)); have n3_ := Aside0.mk ((by rw [hg]; exact (below_size (by repeat (first | (with_reducible first | exact HB.out | apply below_alloc | apply pw_below_drewN | apply below_drew1) | exact HB.out))) : w.heap.size ≤ gb184)); clear HB; have HB := n0_; have BK184 := n1_; have GW184 := n2_; have GE184 := n3_; clear n0_ n1_ n2_ n3_; clear hb hbox hg) | ((with_reducible refine gate_dst (N := 3) rfl ?_); (try (refine gate_guard (by rfl) ?_; dsimp only)); refine box_event ?hg (N := 3) ?hd (cs := #[.string a1_0, .string a1_1, .slice A1_2 l1_2.length c1_2]) (t := 29) ?hr ?_; (case hd => rfl); (case hg => rfl); (case hr => first | (go_simp; done) | (go_simp; rfl)); intro gb185 hg w5 hbox hb; have n0_ := Aside0.mk (blk_below (g := gb184) (o := .cells #[.string a0_0, .string a0_1, .slice A0_2 l0_2.length c0_2] 29 (0, 0)) (by (with_reducible repeat (first | refine blk_drewN ?_ _ | refine blk_drew ?_ | refine blk_alloc ?_ _)); exact BK184.out) hb); have n1_ := Aside0.mk (below_step (by repeat (first | (with_reducible first | exact HB.out | apply below_alloc | apply pw_below_drewN | apply below_drew1 | refine below_set ?_ GE184.out) | exact HB.out)) hb); have n2_ := Aside0.mk (hbox); have n3_ := Aside0.mk ((by rw [hg]; exact (below_size (by repeat (first | (with_reducible first | exact HB.out | apply below_alloc | apply pw_below_drewN | apply below_drew1 | refine below_set ?_ GE184.out) | exact HB.out))) : w.heap.size ≤ gb185)); have n4_ := Aside0.mk ((by rw [hg]; exact (below_size (by repeat (first | (with_reducible first | exact HB.out | apply below_alloc | apply pw_below_drewN | apply below_drew1 | refine below_set ?_ GE184.out) | exact HB.out))) : w.heap.size ≤ gb185)); have n5_ := Aside0.mk ((by rw [hg]; exact Nat.ne_of_lt (blk_lt (g := gb184) (o := .cells #[.string a0_0, .string a0_1, .slice A0_2 l0_2.length c0_2] 29 (0, 0)) (by (with_reducible repeat (first | refine blk_drewN ?_ _ | refine blk_drew ?_ | refine blk_alloc ?_ _)); exact BK184.out)) : gb184 ≠ gb185)); have n6_ := Aside0.mk ((by rw [hg]; exact Nat.ne_of_gt (blk_lt (g := gb184) (o := .cells #[.string a0_0, .string a0_1, .slice A0_2 l0_2.length c0_2] 29 (0, 0)) (by (with_reducible repeat (first | refine blk_drewN ?_ _ | refine blk_drew ?_ | refine blk_alloc ?_ _)); exact BK184.out)) : gb185 ≠ gb184)); clear BK184; clear HB; have BK184 := n0_; have HB := n1_; have BK185 := n2_; have GW185 := n3_; have GE185 := n4_; have NB184_185 := n5_; have NB185_184 := n6_; clear n0_ n1_ n2_ n3_ n4_ n5_ n6_; clear hb hbox hg)))
  (try simp only [Act.put, List.setIfInBounds_toArray, List.set_cons_zero, List.set_cons_succ])
  go_cut [27] (fun v27 wc => ∃ (kq : Nat) (x27_2 : Bool), v27 = .bool x27_2 ∧ Aside0 (colloquyref20_Same.j0 kq x27_2 a0_0 a0_1 l0_2 a1_0 a1_1 l1_2 = some r) ∧ Aside0 (kq ≤ k) ∧ Aside0 (wc.heap[gb184]? = some (.cells #[.string a0_0, .string a0_1, (.slice A0_2 l0_2.length c0_2)] 29 (0, 0))) ∧ Aside0 (wc.heap[gb185]? = some (.cells #[.string a1_0, .string a1_1, (.slice A1_2 l1_2.length c1_2)] 29 (0, 0))) ∧ Aside0 (Below w.heap.size w wc))
  case first =>
    have H := HC3.out
    clear HC3
    by_cases c6 : a0_0.toList = a1_0.toList
    · rw [if_pos c6] at H
      have c6b0 : (a0_0.toList == a1_0.toList) = true := beq_iff_eq.mpr c6
      have c6b1 : (a0_0.toList != a1_0.toList) = false := bne_eq_false_iff_eq.mpr c6
      clear c6
      (first | rw [c6b0] | rw [c6b1] | (simp only [i64_w, i32_w]; rw [c6b0]) | skip)
      by_cases c7 : a0_1.toList = a1_1.toList
      · rw [if_pos c7] at H
        have c7b0 : (a0_1.toList == a1_1.toList) = true := beq_iff_eq.mpr c7
        have c7b1 : (a0_1.toList != a1_1.toList) = false := bne_eq_false_iff_eq.mpr c7
        clear c7
        have H' := Aside0.mk H
        clear H
        have hnb8 := NB184_185.out
        have hnc8 := NB185_184.out
        have hcz9_0 : w5.cell? ⟨gb184, 0, none⟩ = some (.string a0_0) := (blk_cell BK184.out 0).trans rfl
        have hcz9_1 : w5.cell? ⟨gb184, 1, none⟩ = some (.string a0_1) := (blk_cell BK184.out 1).trans rfl
        have hcz9_2 : w5.cell? ⟨gb184, 2, none⟩ = some (.slice A0_2 l0_2.length c0_2) := (blk_cell BK184.out 2).trans rfl
        have hfz9_0 := blk_frozen BK184.out 0
        have hfz9_1 := blk_frozen BK184.out 1
        have hfz9_2 := blk_frozen BK184.out 2
        have hcz10_0 : w5.cell? ⟨gb185, 0, none⟩ = some (.string a1_0) := (blk_cell BK185.out 0).trans rfl
        have hcz10_1 : w5.cell? ⟨gb185, 1, none⟩ = some (.string a1_1) := (blk_cell BK185.out 1).trans rfl
        have hcz10_2 : w5.cell? ⟨gb185, 2, none⟩ = some (.slice A1_2 l1_2.length c1_2) := (blk_cell BK185.out 2).trans rfl
        have hfz10_0 := blk_frozen BK185.out 0
        have hfz10_1 := blk_frozen BK185.out 1
        have hfz10_2 := blk_frozen BK185.out 2
        go_wp2
        repeat (go_quiet (fail); try go_wp2)
        go_meet
        case rel => exact ⟨_, (((l0_2.length : Int) != (l1_2.length : Int))), (by first | rfl | (simp; done) | (simp [*]; done)), H', ⟨by first | omega | exact Nat.le_refl _⟩, ⟨by (with_reducible repeat (first | refine blk_drewN ?_ _ | refine blk_drew ?_ | refine blk_alloc ?_ _)); exact BK184.out⟩, ⟨by (with_reducible repeat (first | refine blk_drewN ?_ _ | refine blk_drew ?_ | refine blk_alloc ?_ _)); exact BK185.out⟩, ⟨by repeat (first | (with_reducible first | exact HB.out | apply below_alloc | apply pw_below_drewN | apply below_drew1 | refine below_set ?_ GE184.out | refine below_set ?_ GE185.out) | exact HB.out)⟩⟩
      · rw [if_neg c7] at H
        have c7b0 : (a0_1.toList == a1_1.toList) = false := beq_eq_false_iff_ne.mpr c7
        have c7b1 : (a0_1.toList != a1_1.toList) = true := bne_iff_ne.mpr c7
        have H' := Aside0.mk H
        clear H
        have hnb11 := NB184_185.out
        have hnc11 := NB185_184.out
        have hcz12_0 : w5.cell? ⟨gb184, 0, none⟩ = some (.string a0_0) := (blk_cell BK184.out 0).trans rfl
        have hcz12_1 : w5.cell? ⟨gb184, 1, none⟩ = some (.string a0_1) := (blk_cell BK184.out 1).trans rfl
        have hcz12_2 : w5.cell? ⟨gb184, 2, none⟩ = some (.slice A0_2 l0_2.length c0_2) := (blk_cell BK184.out 2).trans rfl
        have hfz12_0 := blk_frozen BK184.out 0
        have hfz12_1 := blk_frozen BK184.out 1
        have hfz12_2 := blk_frozen BK184.out 2
        have hcz13_0 : w5.cell? ⟨gb185, 0, none⟩ = some (.string a1_0) := (blk_cell BK185.out 0).trans rfl
        have hcz13_1 : w5.cell? ⟨gb185, 1, none⟩ = some (.string a1_1) := (blk_cell BK185.out 1).trans rfl
        have hcz13_2 : w5.cell? ⟨gb185, 2, none⟩ = some (.slice A1_2 l1_2.length c1_2) := (blk_cell BK185.out 2).trans rfl
        have hfz13_0 := blk_frozen BK185.out 0
        have hfz13_1 := blk_frozen BK185.out 1
        have hfz13_2 := blk_frozen BK185.out 2
        go_wp2
        repeat (go_quiet (fail); try go_wp2)
        go_meet
        case rel => exact ⟨_, (true), (by first | rfl | (simp; done) | (simp [*]; done)), H', ⟨by first | omega | exact Nat.le_refl _⟩, ⟨by (with_reducible repeat (first | refine blk_drewN ?_ _ | refine blk_drew ?_ | refine blk_alloc ?_ _)); exact BK184.out⟩, ⟨by (with_reducible repeat (first | refine blk_drewN ?_ _ | refine blk_drew ?_ | refine blk_alloc ?_ _)); exact BK185.out⟩, ⟨by repeat (first | (with_reducible first | exact HB.out | apply below_alloc | apply pw_below_drewN | apply below_drew1 | refine below_set ?_ GE184.out | refine below_set ?_ GE185.out) | exact HB.out)⟩⟩
    · rw [if_neg c6] at H
      have c6b0 : (a0_0.toList == a1_0.toList) = false := beq_eq_false_iff_ne.mpr c6
      have c6b1 : (a0_0.toList != a1_0.toList) = true := bne_iff_ne.mpr c6
      (first | rw [c6b0] | rw [c6b1] | (simp only [i64_w, i32_w]; rw [c6b0]) | skip)
      have H' := Aside0.mk H
      clear H
      have hnb14 := NB184_185.out
      have hnc14 := NB185_184.out
      have hcz15_0 : w5.cell? ⟨gb184, 0, none⟩ = some (.string a0_0) := (blk_cell BK184.out 0).trans rfl
      have hcz15_1 : w5.cell? ⟨gb184, 1, none⟩ = some (.string a0_1) := (blk_cell BK184.out 1).trans rfl
      have hcz15_2 : w5.cell? ⟨gb184, 2, none⟩ = some (.slice A0_2 l0_2.length c0_2) := (blk_cell BK184.out 2).trans rfl
      have hfz15_0 := blk_frozen BK184.out 0
      have hfz15_1 := blk_frozen BK184.out 1
      have hfz15_2 := blk_frozen BK184.out 2
      have hcz16_0 : w5.cell? ⟨gb185, 0, none⟩ = some (.string a1_0) := (blk_cell BK185.out 0).trans rfl
      have hcz16_1 : w5.cell? ⟨gb185, 1, none⟩ = some (.string a1_1) := (blk_cell BK185.out 1).trans rfl
      have hcz16_2 : w5.cell? ⟨gb185, 2, none⟩ = some (.slice A1_2 l1_2.length c1_2) := (blk_cell BK185.out 2).trans rfl
      have hfz16_0 := blk_frozen BK185.out 0
      have hfz16_1 := blk_frozen BK185.out 1
      have hfz16_2 := blk_frozen BK185.out 2
      go_wp2
      repeat (go_quiet (fail); try go_wp2)
      go_meet
      case rel => exact ⟨_, (true), (by first | rfl | (simp; done) | (simp [*]; done)), H', ⟨by first | omega | exact Nat.le_refl _⟩, ⟨by (with_reducible repeat (first | refine blk_drewN ?_ _ | refine blk_drew ?_ | refine blk_alloc ?_ _)); exact BK184.out⟩, ⟨by (with_reducible repeat (first | refine blk_drewN ?_ _ | refine blk_drew ?_ | refine blk_alloc ?_ _)); exact BK185.out⟩, ⟨by repeat (first | (with_reducible first | exact HB.out | apply below_alloc | apply pw_below_drewN | apply below_drew1 | refine below_set ?_ GE184.out | refine below_set ?_ GE185.out) | exact HB.out)⟩⟩
  case rest =>
    clear HC3
    try clear c1
    try clear c2
    try clear p2
    try clear c6
    try clear c6b0
    try clear c6b1
    try clear c7
    try clear c7b0
    try clear c7b1
    try clear c8
    try clear c11
    try clear c14
    try clear hcz10_0
    try clear hcz10_1
    try clear hcz10_2
    try clear hcz12_0
    try clear hcz12_1
    try clear hcz12_2
    try clear hcz13_0
    try clear hcz13_1
    try clear hcz13_2
    try clear hcz15_0
    try clear hcz15_1
    try clear hcz15_2
    try clear hcz16_0
    try clear hcz16_1
    try clear hcz16_2
    try clear hcz9_0
    try clear hcz9_1
    try clear hcz9_2
    try clear hfz10_0
    try clear hfz10_1
    try clear hfz10_2
    try clear hfz12_0
    try clear hfz12_1
    try clear hfz12_2
    try clear hfz13_0
    try clear hfz13_1
    try clear hfz13_2
    try clear hfz15_0
    try clear hfz15_1
    try clear hfz15_2
    try clear hfz16_0
    try clear hfz16_1
    try clear hfz16_2
    try clear hfz9_0
    try clear hfz9_1
    try clear hfz9_2
    obtain ⟨kq, x27_2, rfl, HA, HJ2, BK184, BK185, HB⟩ := hcut
    cases kq with
    | zero => exact absurd HA.out (by simp [colloquyref20_Same.j0])
    | succ kj2 =>
      have H := HA.out
      clear HA
      simp only [colloquyref20_Same.j0] at H
      by_cases c17 : x27_2 = true
      · subst c17
        have H1 : (some false) = some r := by rw [if_pos rfl] at H; exact H
        clear H
        have H := H1
        clear H1
        obtain rfl := Option.some.inj H
        go_wp2
        repeat (go_quiet (fail); try go_wp2)
        go_ret
        exact ⟨by first | rfl | (simp [errW_none, errW_some] <;> rfl) | (simp [*, errW_none, errW_some] <;> rfl), by repeat (first | (with_reducible first | exact HB.out | apply below_alloc | apply pw_below_drewN | apply below_drew1 | refine below_set ?_ GE184.out | refine below_set ?_ GE185.out) | exact HB.out)⟩
      · replace c17 := Bool.eq_false_iff.mpr c17
        subst c17
        have H1 : (colloquyref20_Same.l0 kj2 0 a0_0 a0_1 l0_2 a1_0 a1_1 l1_2) = some r := by rw [if_neg (show ¬ (false = true) by decide)] at H; exact H
        clear H
        have H := H1
        clear H1
        have H' := Aside0.mk H
        clear H
        go_wp2
        repeat (go_quiet (fail); try go_wp2)
        go_loopg [5] kj2 (fun kq v5 w' => ∃ (x5_2 : Int), v5 = .int .i64 x5_2 ∧ Aside0 (colloquyref20_Same.l0 kq x5_2 a0_0 a0_1 l0_2 a1_0 a1_1 l1_2 = some r) ∧ Aside0 (kq ≤ kj2) ∧ Aside0 (w'.heap[gb184]? = some (.cells #[.string a0_0, .string a0_1, (.slice A0_2 l0_2.length c0_2)] 29 (0, 0))) ∧ Aside0 (w'.heap[gb185]? = some (.cells #[.string a1_0, .string a1_1, (.slice A1_2 l1_2.length c1_2)] 29 (0, 0))) ∧ Aside0 (Below w.heap.size w w'))
        case atStart => exact ⟨(0), (by first | rfl | (simp; done) | (simp [*]; done)), H', ⟨Nat.le_refl _⟩, ⟨by (with_reducible repeat (first | refine blk_drewN ?_ _ | refine blk_drew ?_ | refine blk_alloc ?_ _)); exact BK184.out⟩, ⟨by (with_reducible repeat (first | refine blk_drewN ?_ _ | refine blk_drew ?_ | refine blk_alloc ?_ _)); exact BK185.out⟩, ⟨by repeat (first | (with_reducible first | exact HB.out | apply below_alloc | apply pw_below_drewN | apply below_drew1 | refine below_set ?_ GE184.out | refine below_set ?_ GE185.out) | exact HB.out)⟩⟩
        case round =>
          clear H'
          try clear c1
          try clear c2
          try clear p2
          try clear c6
          try clear c6b0
          try clear c6b1
          try clear c7
          try clear c7b0
          try clear c7b1
          try clear c8
          try clear c11
          try clear c14
          try clear c17
          try clear hcz10_0
          try clear hcz10_1
          try clear hcz10_2
          try clear hcz12_0
          try clear hcz12_1
          try clear hcz12_2
          try clear hcz13_0
          try clear hcz13_1
          try clear hcz13_2
          try clear hcz15_0
          try clear hcz15_1
          try clear hcz15_2
          try clear hcz16_0
          try clear hcz16_1
          try clear hcz16_2
          try clear hcz9_0
          try clear hcz9_1
          try clear hcz9_2
          try clear hfz10_0
          try clear hfz10_1
          try clear hfz10_2
          try clear hfz12_0
          try clear hfz12_1
          try clear hfz12_2
          try clear hfz13_0
          try clear hfz13_1
          try clear hfz13_2
          try clear hfz15_0
          try clear hfz15_1
          try clear hfz15_2
          try clear hfz16_0
          try clear hfz16_1
          try clear hfz16_2
          try clear hfz9_0
          try clear hfz9_1
          try clear hfz9_2
          try clear p2
          obtain ⟨x5_2, rfl, HA, HK2, BK184, BK185, HB⟩ := hrel
          cases gk with
          | zero => exact absurd HA.out (by simp [colloquyref20_Same.l0])
          | succ k2 =>
            have H := HA.out
            clear HA
            simp only [colloquyref20_Same.l0] at H
            by_cases c18 : x5_2 < (l0_2.length : Int)
            · rw [if_pos c18] at H
              have c18b0 : decide (x5_2 < (l0_2.length : Int)) = true := decide_eq_true c18
              clear c18
              have HC19 := Aside0.mk H
              clear H
              have hnb20 := NB184_185.out
              have hnc20 := NB185_184.out
              have hcz21_0 : wr.cell? ⟨gb184, 0, none⟩ = some (.string a0_0) := (blk_cell BK184.out 0).trans rfl
              have hcz21_1 : wr.cell? ⟨gb184, 1, none⟩ = some (.string a0_1) := (blk_cell BK184.out 1).trans rfl
              have hcz21_2 : wr.cell? ⟨gb184, 2, none⟩ = some (.slice A0_2 l0_2.length c0_2) := (blk_cell BK184.out 2).trans rfl
              have hfz21_0 := blk_frozen BK184.out 0
              have hfz21_1 := blk_frozen BK184.out 1
              have hfz21_2 := blk_frozen BK184.out 2
              go_upto_region 6 with (fail)
              repeat (go_quiet (fail); go_upto_region 6 with (fail))
              go_cut [64] (fun v64 wc => ∃ (kq : Nat) (x64_18 : Bool), v64 = .bool x64_18 ∧ Aside0 (colloquyref20_Same.j2 kq x5_2 x64_18 a0_0 a0_1 l0_2 a1_0 a1_1 l1_2 = some r) ∧ Aside0 (kq ≤ k2) ∧ Aside0 (wc.heap[gb184]? = some (.cells #[.string a0_0, .string a0_1, (.slice A0_2 l0_2.length c0_2)] 29 (0, 0))) ∧ Aside0 (wc.heap[gb185]? = some (.cells #[.string a1_0, .string a1_1, (.slice A1_2 l1_2.length c1_2)] 29 (0, 0))) ∧ Aside0 (Below w.heap.size w wc))
              case first =>
                have H := HC19.out
                clear HC19
                by_cases c22 : 0 ≤ x5_2
                · rw [if_pos c22] at H
                  have c22b0 : decide (0 ≤ x5_2) = true := decide_eq_true c22
                  clear c22
                  (first | rw [c22b0] | rw [c22b1] | (simp only [i64_w, i32_w]; rw [c22b0]) | skip)
                  by_cases c23 : x5_2 < (l1_2.length : Int)
                  · rw [if_pos c23] at H
                    have c23b0 : decide (x5_2 < (l1_2.length : Int)) = true := decide_eq_true c23
                    clear c23
                    by_cases c24 : ((rd_T53 l0_2 x5_2).f0).toList = ((rd_T53 l1_2 x5_2).f0).toList
                    · rw [if_pos c24] at H
                      have c24b0 : (((rd_T53 l0_2 x5_2).f0).toList == ((rd_T53 l1_2 x5_2).f0).toList) = true := beq_iff_eq.mpr c24
                      have c24b1 : (((rd_T53 l0_2 x5_2).f0).toList != ((rd_T53 l1_2 x5_2).f0).toList) = false := bne_eq_false_iff_eq.mpr c24
                      clear c24
                      have H' := Aside0.mk H
                      clear H
                      have hnb25 := NB184_185.out
                      have hnc25 := NB185_184.out
                      have hcz26_0 : wr.cell? ⟨gb184, 0, none⟩ = some (.string a0_0) := (blk_cell BK184.out 0).trans rfl
                      have hcz26_1 : wr.cell? ⟨gb184, 1, none⟩ = some (.string a0_1) := (blk_cell BK184.out 1).trans rfl
                      have hcz26_2 : wr.cell? ⟨gb184, 2, none⟩ = some (.slice A0_2 l0_2.length c0_2) := (blk_cell BK184.out 2).trans rfl
                      have hfz26_0 := blk_frozen BK184.out 0
                      have hfz26_1 := blk_frozen BK184.out 1
                      have hfz26_2 := blk_frozen BK184.out 2
                      have p186 : 0 ≤ (x5_2 : Int) := of_decide_eq_true (by first | (with_reducible assumption) | assumption)
                      have q186 : x5_2 < (l0_2.length : Int) := of_decide_eq_true (by first | (with_reducible assumption) | assumption)
                      obtain ⟨ad186, A186_1, c186_1, e186, hx186_0, hx186_1, hl186_1, hi186_1⟩ := at_T53 HR0_2.out x5_2 p186 q186
                      cases e186
                      replace hx186_0 := (HB.out.cell (World.block_lt_of_cell? w _ hx186_0)).trans hx186_0
                      replace hx186_1 := (HB.out.cell (World.block_lt_of_cell? w _ hx186_1)).trans hx186_1
                      have HR186_1 := Aside0.mk hi186_1
                      have HC186_1 := Aside0.mk hl186_1
                      clear hi186_1 hl186_1
                      replace p186 := eq_true p186
                      replace q186 := eq_true q186
                      have hcz27_0 : wr.cell? ⟨gb185, 0, none⟩ = some (.string a1_0) := (blk_cell BK185.out 0).trans rfl
                      have hcz27_1 : wr.cell? ⟨gb185, 1, none⟩ = some (.string a1_1) := (blk_cell BK185.out 1).trans rfl
                      have hcz27_2 : wr.cell? ⟨gb185, 2, none⟩ = some (.slice A1_2 l1_2.length c1_2) := (blk_cell BK185.out 2).trans rfl
                      have hfz27_0 := blk_frozen BK185.out 0
                      have hfz27_1 := blk_frozen BK185.out 1
                      have hfz27_2 := blk_frozen BK185.out 2
                      have p187 : 0 ≤ (x5_2 : Int) := of_decide_eq_true (by first | (with_reducible assumption) | assumption)
                      have q187 : x5_2 < (l1_2.length : Int) := of_decide_eq_true (by first | (with_reducible assumption) | assumption)
                      obtain ⟨ad187, A187_1, c187_1, e187, hx187_0, hx187_1, hl187_1, hi187_1⟩ := at_T53 HR1_2.out x5_2 p187 q187
                      cases e187
                      replace hx187_0 := (HB.out.cell (World.block_lt_of_cell? w _ hx187_0)).trans hx187_0
                      replace hx187_1 := (HB.out.cell (World.block_lt_of_cell? w _ hx187_1)).trans hx187_1
                      have HR187_1 := Aside0.mk hi187_1
                      have HC187_1 := Aside0.mk hl187_1
                      clear hi187_1 hl187_1
                      replace p187 := eq_true p187
                      replace q187 := eq_true q187
                      have p188 : 0 ≤ (x5_2 : Int) := of_decide_eq_true (by first | (with_reducible assumption) | assumption)
                      have q188 : x5_2 < (l0_2.length : Int) := of_decide_eq_true (by first | (with_reducible assumption) | assumption)
                      obtain ⟨ad188, A188_1, c188_1, e188, hx188_0, hx188_1, hl188_1, hi188_1⟩ := at_T53 HR0_2.out x5_2 p188 q188
                      obtain rfl : ad186 = ad188 := (by injection e188)
                      replace hx188_0 := (HB.out.cell (World.block_lt_of_cell? w _ hx188_0)).trans hx188_0
                      replace hx188_1 := (HB.out.cell (World.block_lt_of_cell? w _ hx188_1)).trans hx188_1
                      have HR188_1 := Aside0.mk hi188_1
                      have HC188_1 := Aside0.mk hl188_1
                      clear hi188_1 hl188_1
                      replace p188 := eq_true p188
                      replace q188 := eq_true q188
                      have ea_ := Option.some.inj (hx186_1.symm.trans hx188_1)
                      injection ea_ with ea_ en_ ec_
                      subst ea_
                      subst ec_
                      clear en_
                      have p189 : 0 ≤ (x5_2 : Int) := of_decide_eq_true (by first | (with_reducible assumption) | assumption)
                      have q189 : x5_2 < (l1_2.length : Int) := of_decide_eq_true (by first | (with_reducible assumption) | assumption)
                      obtain ⟨ad189, A189_1, c189_1, e189, hx189_0, hx189_1, hl189_1, hi189_1⟩ := at_T53 HR1_2.out x5_2 p189 q189
                      obtain rfl : ad187 = ad189 := (by injection e189)
                      replace hx189_0 := (HB.out.cell (World.block_lt_of_cell? w _ hx189_0)).trans hx189_0
                      replace hx189_1 := (HB.out.cell (World.block_lt_of_cell? w _ hx189_1)).trans hx189_1
                      have HR189_1 := Aside0.mk hi189_1
                      have HC189_1 := Aside0.mk hl189_1
                      clear hi189_1 hl189_1
                      replace p189 := eq_true p189
                      replace q189 := eq_true q189
                      have ea_ := Option.some.inj (hx187_1.symm.trans hx189_1)
                      injection ea_ with ea_ en_ ec_
                      subst ea_
                      subst ec_
                      clear en_
                      go_wp2
                      repeat (go_quiet (fail); try go_wp2)
                      go_meet
                      case rel => exact ⟨_, (((((rd_T53 l0_2 x5_2).f1).length : Int) != (((rd_T53 l1_2 x5_2).f1).length : Int))), (by first | rfl | (simp; done) | (simp [*]; done)), H', ⟨by have := HJ2.out; have := HK2.out; first | omega | exact Nat.le_refl _⟩, ⟨by (with_reducible repeat (first | refine blk_drewN ?_ _ | refine blk_drew ?_ | refine blk_alloc ?_ _)); exact BK184.out⟩, ⟨by (with_reducible repeat (first | refine blk_drewN ?_ _ | refine blk_drew ?_ | refine blk_alloc ?_ _)); exact BK185.out⟩, ⟨by repeat (first | (with_reducible first | exact HB.out | apply below_alloc | apply pw_below_drewN | apply below_drew1 | refine below_set ?_ GE184.out | refine below_set ?_ GE185.out) | exact HB.out)⟩⟩
                    · rw [if_neg c24] at H
                      have c24b0 : (((rd_T53 l0_2 x5_2).f0).toList == ((rd_T53 l1_2 x5_2).f0).toList) = false := beq_eq_false_iff_ne.mpr c24
                      have c24b1 : (((rd_T53 l0_2 x5_2).f0).toList != ((rd_T53 l1_2 x5_2).f0).toList) = true := bne_iff_ne.mpr c24
                      have H' := Aside0.mk H
                      clear H
                      have hnb28 := NB184_185.out
                      have hnc28 := NB185_184.out
                      have hcz29_0 : wr.cell? ⟨gb184, 0, none⟩ = some (.string a0_0) := (blk_cell BK184.out 0).trans rfl
                      have hcz29_1 : wr.cell? ⟨gb184, 1, none⟩ = some (.string a0_1) := (blk_cell BK184.out 1).trans rfl
                      have hcz29_2 : wr.cell? ⟨gb184, 2, none⟩ = some (.slice A0_2 l0_2.length c0_2) := (blk_cell BK184.out 2).trans rfl
                      have hfz29_0 := blk_frozen BK184.out 0
                      have hfz29_1 := blk_frozen BK184.out 1
                      have hfz29_2 := blk_frozen BK184.out 2
                      have p186 : 0 ≤ (x5_2 : Int) := of_decide_eq_true (by first | (with_reducible assumption) | assumption)
                      have q186 : x5_2 < (l0_2.length : Int) := of_decide_eq_true (by first | (with_reducible assumption) | assumption)
                      obtain ⟨ad186, A186_1, c186_1, e186, hx186_0, hx186_1, hl186_1, hi186_1⟩ := at_T53 HR0_2.out x5_2 p186 q186
                      cases e186
                      replace hx186_0 := (HB.out.cell (World.block_lt_of_cell? w _ hx186_0)).trans hx186_0
                      replace hx186_1 := (HB.out.cell (World.block_lt_of_cell? w _ hx186_1)).trans hx186_1
                      have HR186_1 := Aside0.mk hi186_1
                      have HC186_1 := Aside0.mk hl186_1
                      clear hi186_1 hl186_1
                      replace p186 := eq_true p186
                      replace q186 := eq_true q186
                      have hcz30_0 : wr.cell? ⟨gb185, 0, none⟩ = some (.string a1_0) := (blk_cell BK185.out 0).trans rfl
                      have hcz30_1 : wr.cell? ⟨gb185, 1, none⟩ = some (.string a1_1) := (blk_cell BK185.out 1).trans rfl
                      have hcz30_2 : wr.cell? ⟨gb185, 2, none⟩ = some (.slice A1_2 l1_2.length c1_2) := (blk_cell BK185.out 2).trans rfl
                      have hfz30_0 := blk_frozen BK185.out 0
                      have hfz30_1 := blk_frozen BK185.out 1
                      have hfz30_2 := blk_frozen BK185.out 2
                      have p187 : 0 ≤ (x5_2 : Int) := of_decide_eq_true (by first | (with_reducible assumption) | assumption)
                      have q187 : x5_2 < (l1_2.length : Int) := of_decide_eq_true (by first | (with_reducible assumption) | assumption)
                      obtain ⟨ad187, A187_1, c187_1, e187, hx187_0, hx187_1, hl187_1, hi187_1⟩ := at_T53 HR1_2.out x5_2 p187 q187
                      cases e187
                      replace hx187_0 := (HB.out.cell (World.block_lt_of_cell? w _ hx187_0)).trans hx187_0
                      replace hx187_1 := (HB.out.cell (World.block_lt_of_cell? w _ hx187_1)).trans hx187_1
                      have HR187_1 := Aside0.mk hi187_1
                      have HC187_1 := Aside0.mk hl187_1
                      clear hi187_1 hl187_1
                      replace p187 := eq_true p187
                      replace q187 := eq_true q187
                      go_wp2
                      repeat (go_quiet (fail); try go_wp2)
                      go_meet
                      case rel => exact ⟨_, (true), (by first | rfl | (simp; done) | (simp [*]; done)), H', ⟨by have := HJ2.out; have := HK2.out; first | omega | exact Nat.le_refl _⟩, ⟨by (with_reducible repeat (first | refine blk_drewN ?_ _ | refine blk_drew ?_ | refine blk_alloc ?_ _)); exact BK184.out⟩, ⟨by (with_reducible repeat (first | refine blk_drewN ?_ _ | refine blk_drew ?_ | refine blk_alloc ?_ _)); exact BK185.out⟩, ⟨by repeat (first | (with_reducible first | exact HB.out | apply below_alloc | apply pw_below_drewN | apply below_drew1 | refine below_set ?_ GE184.out | refine below_set ?_ GE185.out) | exact HB.out)⟩⟩
                  · rw [if_neg c23] at H
                    exact absurd H (by simp)
                · rw [if_neg c22] at H
                  exact absurd H (by simp)
              case rest =>
                clear HC19
                try clear c1
                try clear p1
                try clear q1
                try clear hx1
                try clear c2
                try clear p2
                try clear c6
                try clear c6b0
                try clear c6b1
                try clear c7
                try clear c7b0
                try clear c7b1
                try clear c8
                try clear c11
                try clear c14
                try clear c17
                try clear c18
                try clear c18b0
                try clear p18
                try clear q18
                try clear hx18
                try clear c20
                try clear c22
                try clear c22b0
                try clear c22b1
                try clear c23
                try clear c23b0
                try clear c24
                try clear c24b0
                try clear c24b1
                try clear c25
                try clear c28
                try clear hcz10_0
                try clear hcz10_1
                try clear hcz10_2
                try clear hcz12_0
                try clear hcz12_1
                try clear hcz12_2
                try clear hcz13_0
                try clear hcz13_1
                try clear hcz13_2
                try clear hcz15_0
                try clear hcz15_1
                try clear hcz15_2
                try clear hcz16_0
                try clear hcz16_1
                try clear hcz16_2
                try clear hcz21_0
                try clear hcz21_1
                try clear hcz21_2
                try clear hcz26_0
                try clear hcz26_1
                try clear hcz26_2
                try clear hcz27_0
                try clear hcz27_1
                try clear hcz27_2
                try clear hcz29_0
                try clear hcz29_1
                try clear hcz29_2
                try clear hcz30_0
                try clear hcz30_1
                try clear hcz30_2
                try clear hcz9_0
                try clear hcz9_1
                try clear hcz9_2
                try clear hfz10_0
                try clear hfz10_1
                try clear hfz10_2
                try clear hfz12_0
                try clear hfz12_1
                try clear hfz12_2
                try clear hfz13_0
                try clear hfz13_1
                try clear hfz13_2
                try clear hfz15_0
                try clear hfz15_1
                try clear hfz15_2
                try clear hfz16_0
                try clear hfz16_1
                try clear hfz16_2
                try clear hfz21_0
                try clear hfz21_1
                try clear hfz21_2
                try clear hfz26_0
                try clear hfz26_1
                try clear hfz26_2
                try clear hfz27_0
                try clear hfz27_1
                try clear hfz27_2
                try clear hfz29_0
                try clear hfz29_1
                try clear hfz29_2
                try clear hfz30_0
                try clear hfz30_1
                try clear hfz30_2
                try clear hfz9_0
                try clear hfz9_1
                try clear hfz9_2
                try clear hx186_0
                try clear hx186_1
                try clear hx187_0
                try clear hx187_1
                try clear hx188_0
                try clear hx188_1
                try clear hx189_0
                try clear hx189_1
                try clear p186
                try clear p187
                try clear p188
                try clear p189
                try clear p2
                try clear q186
                try clear q187
                try clear q188
                try clear q189
                obtain ⟨kq, x64_18, rfl, HA, HJ18, BK184, BK185, HB⟩ := hcut
                cases kq with
                | zero => exact absurd HA.out (by simp [colloquyref20_Same.j2])
                | succ kj18 =>
                  have H := HA.out
                  clear HA
                  simp only [colloquyref20_Same.j2] at H
                  by_cases c31 : x64_18 = true
                  · subst c31
                    have H1 : (some false) = some r := by rw [if_pos rfl] at H; exact H
                    clear H
                    have H := H1
                    clear H1
                    obtain rfl := Option.some.inj H
                    go_wp2
                    repeat (go_quiet (fail); try go_wp2)
                    go_ret
                    exact ⟨by first | rfl | (simp [errW_none, errW_some] <;> rfl) | (simp [*, errW_none, errW_some] <;> rfl), by repeat (first | (with_reducible first | exact HB.out | apply below_alloc | apply pw_below_drewN | apply below_drew1 | refine below_set ?_ GE184.out | refine below_set ?_ GE185.out) | exact HB.out)⟩
                  · replace c31 := Bool.eq_false_iff.mpr c31
                    subst c31
                    have H1 : (colloquyref20_Same.l1 kj18 x5_2 0 a0_0 a0_1 l0_2 a1_0 a1_1 l1_2) = some r := by rw [if_neg (show ¬ (false = true) by decide)] at H; exact H
                    clear H
                    have H := H1
                    clear H1
                    have H' := Aside0.mk H
                    clear H
                    go_wp2
                    repeat (go_quiet (fail); try go_wp2)
                    go_loopg [6] kj18 (fun kq v6 w' => ∃ (x6_4 : Int), v6 = .int .i64 x6_4 ∧ Aside0 (colloquyref20_Same.l1 kq x5_2 x6_4 a0_0 a0_1 l0_2 a1_0 a1_1 l1_2 = some r) ∧ Aside0 (kq ≤ kj18) ∧ Aside0 (w'.heap[gb184]? = some (.cells #[.string a0_0, .string a0_1, (.slice A0_2 l0_2.length c0_2)] 29 (0, 0))) ∧ Aside0 (w'.heap[gb185]? = some (.cells #[.string a1_0, .string a1_1, (.slice A1_2 l1_2.length c1_2)] 29 (0, 0))) ∧ Aside0 (Below w.heap.size w w'))
                    case atStart => exact ⟨(0), (by first | rfl | (simp; done) | (simp [*]; done)), H', ⟨Nat.le_refl _⟩, ⟨by (with_reducible repeat (first | refine blk_drewN ?_ _ | refine blk_drew ?_ | refine blk_alloc ?_ _)); exact BK184.out⟩, ⟨by (with_reducible repeat (first | refine blk_drewN ?_ _ | refine blk_drew ?_ | refine blk_alloc ?_ _)); exact BK185.out⟩, ⟨by repeat (first | (with_reducible first | exact HB.out | apply below_alloc | apply pw_below_drewN | apply below_drew1 | refine below_set ?_ GE184.out | refine below_set ?_ GE185.out) | exact HB.out)⟩⟩
                    case round =>
                      clear H'
                      try clear c1
                      try clear p1
                      try clear q1
                      try clear hx1
                      try clear c2
                      try clear p2
                      try clear c3
                      try clear c6
                      try clear c6b0
                      try clear c6b1
                      try clear c7
                      try clear c7b0
                      try clear c7b1
                      try clear c8
                      try clear c11
                      try clear c14
                      try clear c17
                      try clear c18
                      try clear c18b0
                      try clear p18
                      try clear q18
                      try clear hx18
                      try clear c20
                      try clear c22
                      try clear c22b0
                      try clear c22b1
                      try clear c23
                      try clear c23b0
                      try clear c24
                      try clear c24b0
                      try clear c24b1
                      try clear c25
                      try clear c28
                      try clear c31
                      try clear hcz10_0
                      try clear hcz10_1
                      try clear hcz10_2
                      try clear hcz12_0
                      try clear hcz12_1
                      try clear hcz12_2
                      try clear hcz13_0
                      try clear hcz13_1
                      try clear hcz13_2
                      try clear hcz15_0
                      try clear hcz15_1
                      try clear hcz15_2
                      try clear hcz16_0
                      try clear hcz16_1
                      try clear hcz16_2
                      try clear hcz21_0
                      try clear hcz21_1
                      try clear hcz21_2
                      try clear hcz26_0
                      try clear hcz26_1
                      try clear hcz26_2
                      try clear hcz27_0
                      try clear hcz27_1
                      try clear hcz27_2
                      try clear hcz29_0
                      try clear hcz29_1
                      try clear hcz29_2
                      try clear hcz30_0
                      try clear hcz30_1
                      try clear hcz30_2
                      try clear hcz9_0
                      try clear hcz9_1
                      try clear hcz9_2
                      try clear hfz10_0
                      try clear hfz10_1
                      try clear hfz10_2
                      try clear hfz12_0
                      try clear hfz12_1
                      try clear hfz12_2
                      try clear hfz13_0
                      try clear hfz13_1
                      try clear hfz13_2
                      try clear hfz15_0
                      try clear hfz15_1
                      try clear hfz15_2
                      try clear hfz16_0
                      try clear hfz16_1
                      try clear hfz16_2
                      try clear hfz21_0
                      try clear hfz21_1
                      try clear hfz21_2
                      try clear hfz26_0
                      try clear hfz26_1
                      try clear hfz26_2
                      try clear hfz27_0
                      try clear hfz27_1
                      try clear hfz27_2
                      try clear hfz29_0
                      try clear hfz29_1
                      try clear hfz29_2
                      try clear hfz30_0
                      try clear hfz30_1
                      try clear hfz30_2
                      try clear hfz9_0
                      try clear hfz9_1
                      try clear hfz9_2
                      try clear hx186_0
                      try clear hx186_1
                      try clear hx187_0
                      try clear hx187_1
                      try clear hx188_0
                      try clear hx188_1
                      try clear hx189_0
                      try clear hx189_1
                      try clear p1
                      try clear p18
                      try clear p186
                      try clear p187
                      try clear p188
                      try clear p189
                      try clear p2
                      try clear q1
                      try clear q18
                      try clear q186
                      try clear q187
                      try clear q188
                      try clear q189
                      obtain ⟨x6_4, rfl, HA, HK4, BK184, BK185, HB⟩ := hrel
                      cases gk with
                      | zero => exact absurd HA.out (by simp [colloquyref20_Same.l1])
                      | succ k4 =>
                        have H := HA.out
                        clear HA
                        simp only [colloquyref20_Same.l1] at H
                        by_cases c32 : 0 ≤ x5_2
                        · rw [if_pos c32] at H
                          have c32b0 : decide (0 ≤ x5_2) = true := decide_eq_true c32
                          clear c32
                          by_cases c33 : x5_2 < (l0_2.length : Int)
                          · rw [if_pos c33] at H
                            have c33b0 : decide (x5_2 < (l0_2.length : Int)) = true := decide_eq_true c33
                            clear c33
                            by_cases c34 : x6_4 < (((rd_T53 l0_2 x5_2).f1).length : Int)
                            · rw [if_pos c34] at H
                              have c34b0 : decide (x6_4 < (((rd_T53 l0_2 x5_2).f1).length : Int)) = true := decide_eq_true c34
                              clear c34
                              by_cases c35 : 0 ≤ x6_4
                              · rw [if_pos c35] at H
                                have c35b0 : decide (0 ≤ x6_4) = true := decide_eq_true c35
                                clear c35
                                by_cases c36 : x5_2 < (l1_2.length : Int)
                                · rw [if_pos c36] at H
                                  have c36b0 : decide (x5_2 < (l1_2.length : Int)) = true := decide_eq_true c36
                                  clear c36
                                  by_cases c37 : x6_4 < (((rd_T53 l1_2 x5_2).f1).length : Int)
                                  · rw [if_pos c37] at H
                                    have c37b0 : decide (x6_4 < (((rd_T53 l1_2 x5_2).f1).length : Int)) = true := decide_eq_true c37
                                    clear c37
                                    by_cases c38 : (!((((rd_T49 ((rd_T53 l0_2 x5_2).f1) x6_4).f0).toList) == (((rd_T49 ((rd_T53 l1_2 x5_2).f1) x6_4).f0).toList)) || (!(((rd_T49 ((rd_T53 l0_2 x5_2).f1) x6_4).f1) == ((rd_T49 ((rd_T53 l1_2 x5_2).f1) x6_4).f1)))) = true
                                    · rw [if_pos c38] at H
                                      have c38b0 : (!((((rd_T49 ((rd_T53 l0_2 x5_2).f1) x6_4).f0).toList) == (((rd_T49 ((rd_T53 l1_2 x5_2).f1) x6_4).f0).toList)) || (!(((rd_T49 ((rd_T53 l0_2 x5_2).f1) x6_4).f1) == ((rd_T49 ((rd_T53 l1_2 x5_2).f1) x6_4).f1)))) = true := c38
                                      clear c38
                                      obtain rfl := Option.some.inj H
                                      have hnb39 := NB184_185.out
                                      have hnc39 := NB185_184.out
                                      have hcz40_0 : wr.cell? ⟨gb184, 0, none⟩ = some (.string a0_0) := (blk_cell BK184.out 0).trans rfl
                                      have hcz40_1 : wr.cell? ⟨gb184, 1, none⟩ = some (.string a0_1) := (blk_cell BK184.out 1).trans rfl
                                      have hcz40_2 : wr.cell? ⟨gb184, 2, none⟩ = some (.slice A0_2 l0_2.length c0_2) := (blk_cell BK184.out 2).trans rfl
                                      have hfz40_0 := blk_frozen BK184.out 0
                                      have hfz40_1 := blk_frozen BK184.out 1
                                      have hfz40_2 := blk_frozen BK184.out 2
                                      have p190 : 0 ≤ (x5_2 : Int) := of_decide_eq_true (by first | (with_reducible assumption) | assumption)
                                      have q190 : x5_2 < (l0_2.length : Int) := of_decide_eq_true (by first | (with_reducible assumption) | assumption)
                                      obtain ⟨ad190, A190_1, c190_1, e190, hx190_0, hx190_1, hl190_1, hi190_1⟩ := at_T53 HR0_2.out x5_2 p190 q190
                                      cases e190
                                      replace hx190_0 := (HB.out.cell (World.block_lt_of_cell? w _ hx190_0)).trans hx190_0
                                      replace hx190_1 := (HB.out.cell (World.block_lt_of_cell? w _ hx190_1)).trans hx190_1
                                      have HR190_1 := Aside0.mk hi190_1
                                      have HC190_1 := Aside0.mk hl190_1
                                      clear hi190_1 hl190_1
                                      replace p190 := eq_true p190
                                      replace q190 := eq_true q190
                                      have p191 : 0 ≤ (x5_2 : Int) := of_decide_eq_true (by first | (with_reducible assumption) | assumption)
                                      have q191 : x5_2 < (l0_2.length : Int) := of_decide_eq_true (by first | (with_reducible assumption) | assumption)
                                      obtain ⟨ad191, A191_1, c191_1, e191, hx191_0, hx191_1, hl191_1, hi191_1⟩ := at_T53 HR0_2.out x5_2 p191 q191
                                      obtain rfl : ad190 = ad191 := (by injection e191)
                                      replace hx191_0 := (HB.out.cell (World.block_lt_of_cell? w _ hx191_0)).trans hx191_0
                                      replace hx191_1 := (HB.out.cell (World.block_lt_of_cell? w _ hx191_1)).trans hx191_1
                                      have HR191_1 := Aside0.mk hi191_1
                                      have HC191_1 := Aside0.mk hl191_1
                                      clear hi191_1 hl191_1
                                      replace p191 := eq_true p191
                                      replace q191 := eq_true q191
                                      have ea_ := Option.some.inj (hx190_1.symm.trans hx191_1)
                                      injection ea_ with ea_ en_ ec_
                                      subst ea_
                                      subst ec_
                                      clear en_
                                      have p192 : 0 ≤ (x6_4 : Int) := of_decide_eq_true (by first | (with_reducible assumption) | assumption)
                                      have q192 : x6_4 < (((rd_T53 l0_2 x5_2).f1).length : Int) := of_decide_eq_true (by first | (with_reducible assumption) | assumption)
                                      obtain ⟨ad192, e192, hx192_0, hx192_1⟩ := at_T49 HR191_1.out x6_4 p192 q192
                                      cases e192
                                      replace hx192_0 := (HB.out.cell (World.block_lt_of_cell? w _ hx192_0)).trans hx192_0
                                      replace hx192_1 := (HB.out.cell (World.block_lt_of_cell? w _ hx192_1)).trans hx192_1
                                      replace p192 := eq_true p192
                                      replace q192 := eq_true q192
                                      have hcz41_0 : wr.cell? ⟨gb185, 0, none⟩ = some (.string a1_0) := (blk_cell BK185.out 0).trans rfl
                                      have hcz41_1 : wr.cell? ⟨gb185, 1, none⟩ = some (.string a1_1) := (blk_cell BK185.out 1).trans rfl
                                      have hcz41_2 : wr.cell? ⟨gb185, 2, none⟩ = some (.slice A1_2 l1_2.length c1_2) := (blk_cell BK185.out 2).trans rfl
                                      have hfz41_0 := blk_frozen BK185.out 0
                                      have hfz41_1 := blk_frozen BK185.out 1
                                      have hfz41_2 := blk_frozen BK185.out 2
                                      have p193 : 0 ≤ (x5_2 : Int) := of_decide_eq_true (by first | (with_reducible assumption) | assumption)
                                      have q193 : x5_2 < (l1_2.length : Int) := of_decide_eq_true (by first | (with_reducible assumption) | assumption)
                                      obtain ⟨ad193, A193_1, c193_1, e193, hx193_0, hx193_1, hl193_1, hi193_1⟩ := at_T53 HR1_2.out x5_2 p193 q193
                                      cases e193
                                      replace hx193_0 := (HB.out.cell (World.block_lt_of_cell? w _ hx193_0)).trans hx193_0
                                      replace hx193_1 := (HB.out.cell (World.block_lt_of_cell? w _ hx193_1)).trans hx193_1
                                      have HR193_1 := Aside0.mk hi193_1
                                      have HC193_1 := Aside0.mk hl193_1
                                      clear hi193_1 hl193_1
                                      replace p193 := eq_true p193
                                      replace q193 := eq_true q193
                                      have p194 : 0 ≤ (x6_4 : Int) := of_decide_eq_true (by first | (with_reducible assumption) | assumption)
                                      have q194 : x6_4 < (((rd_T53 l1_2 x5_2).f1).length : Int) := of_decide_eq_true (by first | (with_reducible assumption) | assumption)
                                      obtain ⟨ad194, e194, hx194_0, hx194_1⟩ := at_T49 HR193_1.out x6_4 p194 q194
                                      cases e194
                                      replace hx194_0 := (HB.out.cell (World.block_lt_of_cell? w _ hx194_0)).trans hx194_0
                                      replace hx194_1 := (HB.out.cell (World.block_lt_of_cell? w _ hx194_1)).trans hx194_1
                                      replace p194 := eq_true p194
                                      replace q194 := eq_true q194
                                      go_wp2
                                      repeat (go_quiet (fail); try go_wp2)
                                      go_ret
                                      exact ⟨by first | rfl | (simp [errW_none, errW_some] <;> rfl) | (simp [*, errW_none, errW_some] <;> rfl), by repeat (first | (with_reducible first | exact HB.out | apply below_alloc | apply pw_below_drewN | apply below_drew1 | refine below_set ?_ GE184.out | refine below_set ?_ GE185.out) | exact HB.out)⟩
                                    · rw [if_neg c38] at H
                                      have c38b0 : (!((((rd_T49 ((rd_T53 l0_2 x5_2).f1) x6_4).f0).toList) == (((rd_T49 ((rd_T53 l1_2 x5_2).f1) x6_4).f0).toList)) || (!(((rd_T49 ((rd_T53 l0_2 x5_2).f1) x6_4).f1) == ((rd_T49 ((rd_T53 l1_2 x5_2).f1) x6_4).f1)))) = false := by simpa using c38
                                      clear c38
                                      have H' := Aside0.mk H
                                      clear H
                                      have hnb42 := NB184_185.out
                                      have hnc42 := NB185_184.out
                                      have hcz43_0 : wr.cell? ⟨gb184, 0, none⟩ = some (.string a0_0) := (blk_cell BK184.out 0).trans rfl
                                      have hcz43_1 : wr.cell? ⟨gb184, 1, none⟩ = some (.string a0_1) := (blk_cell BK184.out 1).trans rfl
                                      have hcz43_2 : wr.cell? ⟨gb184, 2, none⟩ = some (.slice A0_2 l0_2.length c0_2) := (blk_cell BK184.out 2).trans rfl
                                      have hfz43_0 := blk_frozen BK184.out 0
                                      have hfz43_1 := blk_frozen BK184.out 1
                                      have hfz43_2 := blk_frozen BK184.out 2
                                      have p190 : 0 ≤ (x5_2 : Int) := of_decide_eq_true (by first | (with_reducible assumption) | assumption)
                                      have q190 : x5_2 < (l0_2.length : Int) := of_decide_eq_true (by first | (with_reducible assumption) | assumption)
                                      obtain ⟨ad190, A190_1, c190_1, e190, hx190_0, hx190_1, hl190_1, hi190_1⟩ := at_T53 HR0_2.out x5_2 p190 q190
                                      cases e190
                                      replace hx190_0 := (HB.out.cell (World.block_lt_of_cell? w _ hx190_0)).trans hx190_0
                                      replace hx190_1 := (HB.out.cell (World.block_lt_of_cell? w _ hx190_1)).trans hx190_1
                                      have HR190_1 := Aside0.mk hi190_1
                                      have HC190_1 := Aside0.mk hl190_1
                                      clear hi190_1 hl190_1
                                      replace p190 := eq_true p190
                                      replace q190 := eq_true q190
                                      have p191 : 0 ≤ (x5_2 : Int) := of_decide_eq_true (by first | (with_reducible assumption) | assumption)
                                      have q191 : x5_2 < (l0_2.length : Int) := of_decide_eq_true (by first | (with_reducible assumption) | assumption)
                                      obtain ⟨ad191, A191_1, c191_1, e191, hx191_0, hx191_1, hl191_1, hi191_1⟩ := at_T53 HR0_2.out x5_2 p191 q191
                                      obtain rfl : ad190 = ad191 := (by injection e191)
                                      replace hx191_0 := (HB.out.cell (World.block_lt_of_cell? w _ hx191_0)).trans hx191_0
                                      replace hx191_1 := (HB.out.cell (World.block_lt_of_cell? w _ hx191_1)).trans hx191_1
                                      have HR191_1 := Aside0.mk hi191_1
                                      have HC191_1 := Aside0.mk hl191_1
                                      clear hi191_1 hl191_1
                                      replace p191 := eq_true p191
                                      replace q191 := eq_true q191
                                      have ea_ := Option.some.inj (hx190_1.symm.trans hx191_1)
                                      injection ea_ with ea_ en_ ec_
                                      subst ea_
                                      subst ec_
                                      clear en_
                                      have p192 : 0 ≤ (x6_4 : Int) := of_decide_eq_true (by first | (with_reducible assumption) | assumption)
                                      have q192 : x6_4 < (((rd_T53 l0_2 x5_2).f1).length : Int) := of_decide_eq_true (by first | (with_reducible assumption) | assumption)
                                      obtain ⟨ad192, e192, hx192_0, hx192_1⟩ := at_T49 HR191_1.out x6_4 p192 q192
                                      cases e192
                                      replace hx192_0 := (HB.out.cell (World.block_lt_of_cell? w _ hx192_0)).trans hx192_0
                                      replace hx192_1 := (HB.out.cell (World.block_lt_of_cell? w _ hx192_1)).trans hx192_1
                                      replace p192 := eq_true p192
                                      replace q192 := eq_true q192
                                      have hcz44_0 : wr.cell? ⟨gb185, 0, none⟩ = some (.string a1_0) := (blk_cell BK185.out 0).trans rfl
                                      have hcz44_1 : wr.cell? ⟨gb185, 1, none⟩ = some (.string a1_1) := (blk_cell BK185.out 1).trans rfl
                                      have hcz44_2 : wr.cell? ⟨gb185, 2, none⟩ = some (.slice A1_2 l1_2.length c1_2) := (blk_cell BK185.out 2).trans rfl
                                      have hfz44_0 := blk_frozen BK185.out 0
                                      have hfz44_1 := blk_frozen BK185.out 1
                                      have hfz44_2 := blk_frozen BK185.out 2
                                      have p193 : 0 ≤ (x5_2 : Int) := of_decide_eq_true (by first | (with_reducible assumption) | assumption)
                                      have q193 : x5_2 < (l1_2.length : Int) := of_decide_eq_true (by first | (with_reducible assumption) | assumption)
                                      obtain ⟨ad193, A193_1, c193_1, e193, hx193_0, hx193_1, hl193_1, hi193_1⟩ := at_T53 HR1_2.out x5_2 p193 q193
                                      cases e193
                                      replace hx193_0 := (HB.out.cell (World.block_lt_of_cell? w _ hx193_0)).trans hx193_0
                                      replace hx193_1 := (HB.out.cell (World.block_lt_of_cell? w _ hx193_1)).trans hx193_1
                                      have HR193_1 := Aside0.mk hi193_1
                                      have HC193_1 := Aside0.mk hl193_1
                                      clear hi193_1 hl193_1
                                      replace p193 := eq_true p193
                                      replace q193 := eq_true q193
                                      have p194 : 0 ≤ (x6_4 : Int) := of_decide_eq_true (by first | (with_reducible assumption) | assumption)
                                      have q194 : x6_4 < (((rd_T53 l1_2 x5_2).f1).length : Int) := of_decide_eq_true (by first | (with_reducible assumption) | assumption)
                                      obtain ⟨ad194, e194, hx194_0, hx194_1⟩ := at_T49 HR193_1.out x6_4 p194 q194
                                      cases e194
                                      replace hx194_0 := (HB.out.cell (World.block_lt_of_cell? w _ hx194_0)).trans hx194_0
                                      replace hx194_1 := (HB.out.cell (World.block_lt_of_cell? w _ hx194_1)).trans hx194_1
                                      replace p194 := eq_true p194
                                      replace q194 := eq_true q194
                                      go_wp2
                                      repeat (go_quiet (fail); try go_wp2)
                                      go_roundg k4
                                      case measure => have := HJ2.out; have := HK2.out; have := HJ18.out; have := HK4.out; omega
                                      case rel => exact ⟨(wrap64 (x6_4 + 1)), (by first | rfl | (simp; done) | (simp [*]; done)), H', ⟨by have := HJ2.out; have := HK2.out; have := HJ18.out; have := HK4.out; omega⟩, ⟨by (with_reducible repeat (first | refine blk_drewN ?_ _ | refine blk_drew ?_ | refine blk_alloc ?_ _)); exact BK184.out⟩, ⟨by (with_reducible repeat (first | refine blk_drewN ?_ _ | refine blk_drew ?_ | refine blk_alloc ?_ _)); exact BK185.out⟩, ⟨by repeat (first | (with_reducible first | exact HB.out | apply below_alloc | apply pw_below_drewN | apply below_drew1 | refine below_set ?_ GE184.out | refine below_set ?_ GE185.out) | exact HB.out)⟩⟩
                                  · rw [if_neg c37] at H
                                    exact absurd H (by simp)
                                · rw [if_neg c36] at H
                                  exact absurd H (by simp)
                              · rw [if_neg c35] at H
                                exact absurd H (by simp)
                            · rw [if_neg c34] at H
                              have c34b0 : decide (x6_4 < (((rd_T53 l0_2 x5_2).f1).length : Int)) = false := decide_eq_false c34
                              clear c34
                              have H' := Aside0.mk H
                              clear H
                              have hnb45 := NB184_185.out
                              have hnc45 := NB185_184.out
                              have hcz46_0 : wr.cell? ⟨gb184, 0, none⟩ = some (.string a0_0) := (blk_cell BK184.out 0).trans rfl
                              have hcz46_1 : wr.cell? ⟨gb184, 1, none⟩ = some (.string a0_1) := (blk_cell BK184.out 1).trans rfl
                              have hcz46_2 : wr.cell? ⟨gb184, 2, none⟩ = some (.slice A0_2 l0_2.length c0_2) := (blk_cell BK184.out 2).trans rfl
                              have hfz46_0 := blk_frozen BK184.out 0
                              have hfz46_1 := blk_frozen BK184.out 1
                              have hfz46_2 := blk_frozen BK184.out 2
                              have p190 : 0 ≤ (x5_2 : Int) := of_decide_eq_true (by first | (with_reducible assumption) | assumption)
                              have q190 : x5_2 < (l0_2.length : Int) := of_decide_eq_true (by first | (with_reducible assumption) | assumption)
                              obtain ⟨ad190, A190_1, c190_1, e190, hx190_0, hx190_1, hl190_1, hi190_1⟩ := at_T53 HR0_2.out x5_2 p190 q190
                              cases e190
                              replace hx190_0 := (HB.out.cell (World.block_lt_of_cell? w _ hx190_0)).trans hx190_0
                              replace hx190_1 := (HB.out.cell (World.block_lt_of_cell? w _ hx190_1)).trans hx190_1
                              have HR190_1 := Aside0.mk hi190_1
                              have HC190_1 := Aside0.mk hl190_1
                              clear hi190_1 hl190_1
                              replace p190 := eq_true p190
                              replace q190 := eq_true q190
                              go_wp2
                              repeat (go_quiet (fail); try go_wp2)
                              go_roundg k4
                              case measure => have := HJ2.out; have := HK2.out; have := HJ18.out; have := HK4.out; omega
                              case rel => exact ⟨(wrap64 (x5_2 + 1)), (by first | rfl | (simp; done) | (simp [*]; done)), H', ⟨by have := HJ2.out; have := HK2.out; have := HJ18.out; have := HK4.out; omega⟩, ⟨by (with_reducible repeat (first | refine blk_drewN ?_ _ | refine blk_drew ?_ | refine blk_alloc ?_ _)); exact BK184.out⟩, ⟨by (with_reducible repeat (first | refine blk_drewN ?_ _ | refine blk_drew ?_ | refine blk_alloc ?_ _)); exact BK185.out⟩, ⟨by repeat (first | (with_reducible first | exact HB.out | apply below_alloc | apply pw_below_drewN | apply below_drew1 | refine below_set ?_ GE184.out | refine below_set ?_ GE185.out) | exact HB.out)⟩⟩
                          · rw [if_neg c33] at H
                            exact absurd H (by simp)
                        · rw [if_neg c32] at H
                          exact absurd H (by simp)
            · rw [if_neg c18] at H
              have c18b0 : decide (x5_2 < (l0_2.length : Int)) = false := decide_eq_false c18
              clear c18
              obtain rfl := Option.some.inj H
              have hnb47 := NB184_185.out
              have hnc47 := NB185_184.out
              have hcz48_0 : wr.cell? ⟨gb184, 0, none⟩ = some (.string a0_0) := (blk_cell BK184.out 0).trans rfl
              have hcz48_1 : wr.cell? ⟨gb184, 1, none⟩ = some (.string a0_1) := (blk_cell BK184.out 1).trans rfl
              have hcz48_2 : wr.cell? ⟨gb184, 2, none⟩ = some (.slice A0_2 l0_2.length c0_2) := (blk_cell BK184.out 2).trans rfl
              have hfz48_0 := blk_frozen BK184.out 0
              have hfz48_1 := blk_frozen BK184.out 1
              have hfz48_2 := blk_frozen BK184.out 2
              go_wp2
              repeat (go_quiet (fail); try go_wp2)
              go_ret
              exact ⟨by first | rfl | (simp [errW_none, errW_some] <;> rfl) | (simp [*, errW_none, errW_some] <;> rfl), by repeat (first | (with_reducible first | exact HB.out | apply below_alloc | apply pw_below_drewN | apply below_drew1 | refine below_set ?_ GE184.out | refine below_set ?_ GE185.out) | exact HB.out)⟩
end
section
theorem of_l0 (su bo : ByteArray) (ps : List PP) (hs : szP ps) : ∀ (suf pre : List PP), pre ++ suf = ps → Ev (fun k => colloquylaw20_of.l0 k ps (ps.length : Int) (pre.length : Int) su bo (pre.map cv)) (su, bo, ps.map cv)
  | [], pre, h => by
    rw [List.append_nil] at h
    subst h
    exact Ev.step (f := fun _ => some (su, bo, pre.map cv)) (fun k => by rw [colloquylaw20_of.l0, if_neg (by omega)]) (Ev.now _)
  | p :: suf, pre, h => by
    subst h
    have hl : pre.length + 1 ≤ 3518437208883 := by have h_ := hs.1; simp at h_; omega
    have ih := of_l0 su bo (pre ++ p :: suf) hs suf (pre ++ [p]) (by rw [← app1])
    refine Ev.step (fun k => ?_) ih
    rw [colloquylaw20_of.l0, if_pos (ltA _ _ _), if_pos (by omega), if_pos (ltA _ _ _), if_pos (by rw [List.length_map]; omega), rdP, wr1 pre p (by omega), List.map_append]
    rfl
theorem of_ev (su bo : ByteArray) (ps : List PP) (hs : szP ps) : Ev (fun k => colloquylaw20_of.f k su bo ps) (su, bo, ps.map cv) := of_l0 su bo ps hs ps [] rfl
theorem same_l1 (su bo : ByteArray) (pre suf : List PP) (p : PP) (hl : pre.length < 9223372036854775807) (hb : Ev (fun k => colloquyref20_Same.l0 k ((pre ++ [p]).length : Int) su bo ((pre ++ p :: suf).map cv) su bo ((pre ++ p :: suf).map cv)) true) : ∀ (rsuf rpre : List RS), rpre ++ rsuf = p.f1 → p.f1.length ≤ 9223372036854775807 → Ev (fun k => colloquyref20_Same.l1 k (pre.length : Int) (rpre.length : Int) su bo ((pre ++ p :: suf).map cv) su bo ((pre ++ p :: suf).map cv)) true
  | [], rpre, h, _ => by
    rw [List.append_nil] at h
    refine Ev.step (fun k => ?_) hb
    rw [colloquyref20_Same.l1, if_pos (by omega), if_pos (ltQ _ _ _), rdQ, if_neg (by show ¬ (rpre.length : Int) < (p.f1.length : Int); rw [h]; omega), wr1 pre p hl]
  | r :: rs, rpre, h, hm => by
    have ih := same_l1 su bo pre suf p hl hb rs (rpre ++ [r]) (by rw [← app1]; exact h) hm
    have hlt : (rpre.length : Int) < ((cv p).f1.length : Int) := by show (rpre.length : Int) < (p.f1.length : Int); rw [← h]; exact ltA _ _ _
    have hlt2 : rpre.length < 9223372036854775807 := by have : (rpre.length : Int) < (p.f1.length : Int) := hlt; omega
    refine Ev.step (fun k => ?_) ih
    rw [colloquyref20_Same.l1, if_pos (by omega), if_pos (ltQ _ _ _), rdQ, if_pos hlt, if_pos (by omega), if_pos (ltQ _ _ _), if_pos hlt, if_neg (by simp), wr1 rpre r hlt2]
theorem same_l0 (su bo : ByteArray) (ps : List PP) (hs : szP ps) : ∀ suf pre, pre ++ suf = ps → Ev (fun k => colloquyref20_Same.l0 k (pre.length : Int) su bo (ps.map cv) su bo (ps.map cv)) true
  | [], pre, h => by
    subst h
    exact Ev.step (f := fun _ => some true) (fun k => by rw [colloquyref20_Same.l0, if_neg (nltQ _)]) (Ev.now _)
  | p :: suf, pre, h => by
    have ih := same_l0 su bo ps hs suf (pre ++ [p]) (by rw [← app1]; exact h)
    subst h
    have hl : pre.length < 9223372036854775807 := by have h_ := hs.1; simp at h_; omega
    have h1 := same_l1 su bo pre suf p hl ih p.f1 [] rfl (by have := hs.2 p (by simp); omega)
    refine Ev.step (f := fun k => colloquyref20_Same.j2 k (pre.length : Int) false su bo ((pre ++ p :: suf).map cv) su bo ((pre ++ p :: suf).map cv)) (fun k => ?_) (Ev.step (fun k => ?_) h1)
    · rw [colloquyref20_Same.l0, if_pos (ltQ _ _ _), if_pos (by omega), if_pos (ltQ _ _ _), rdQ, if_pos rfl]
      congr 1
      exact bne_self_eq_false _
    · rw [colloquyref20_Same.j2, if_neg (by decide)]
      rfl
theorem same_ev (su bo : ByteArray) (ps : List PP) (hs : szP ps) : Ev (fun k => colloquyref20_Same.f k su bo (ps.map cv) su bo (ps.map cv)) true := by
  refine Ev.congr (f := fun k => colloquyref20_Same.j0 k false su bo (ps.map cv) su bo (ps.map cv)) (fun k => ?_) (Ev.step (fun k => ?_) (same_l0 su bo ps hs ps [] rfl))
  · rw [colloquyref20_Same.f, if_pos rfl, if_pos rfl]
    congr 1
    exact bne_self_eq_false _
  · rw [colloquyref20_Same.j0, if_neg (by decide)]
    rfl
section
variable {w0 w w1 : World} {R : Chunk} {A A2 : Option Addr} {c c2 : Nat} {su bo : ByteArray} {ps : List PP} {S : Nat → Prop}
theorem right_calls (A : Option Addr) (c : Nat) (su bo : ByteArray) (ps : List PP) (w : World) (hz : szP ps) (hr : Kd.C KP w A ps.length ps) (hc : ps.length ≤ c) : Calls Tryd.prog 14 #[.agg #[.string su, .string bo, .slice A ps.length c]] w fun e w' => e = .returned (.bool (rightS su bo ps)) ∧ Below w.heap.size w w' := by
  obtain ⟨k, hk⟩ := right_ev su bo ps hz
  exact sum_Right.calls k su bo A c ps _ w hr hc (hk k (Nat.le_refl _))
theorem same_calls (A A2 : Option Addr) (c c2 : Nat) (su bo : ByteArray) (ps : List PP) (w : World) (hz : szP ps) (hr : Kd.C KQ w A (ps.map cv).length (ps.map cv)) (hc : (ps.map cv).length ≤ c) (hr2 : Kd.C KQ w A2 (ps.map cv).length (ps.map cv)) (hc2 : (ps.map cv).length ≤ c2) : Calls Tryd.prog 20 #[.agg #[.string su, .string bo, .slice A (ps.map cv).length c], .agg #[.string su, .string bo, .slice A2 (ps.map cv).length c2]] w fun e w' => e = .returned (.bool true) ∧ Below w.heap.size w w' := by
  obtain ⟨k, hk⟩ := same_ev su bo ps hz
  exact colloquyref20_Same.calls k su bo A c (ps.map cv) su bo A2 c2 (ps.map cv) _ w hr hc hr2 hc2 (hk k (Nat.le_refl _))
theorem of_frz (w0 w w1 : World) (R : Chunk) (S : Nat → Prop) (A : Option Addr) (c : Nat) (su bo : ByteArray) (ps : List PP) (hz : szP ps) (hb1 : Below w0.heap.size w0 w1) (hF : Kd.F KP w1 (okF w0 S) A ps.length ps) (hc : ps.length ≤ c) (HO : Own w0 w [R, Chunk.frz w1 S]) : Calls Tryd.prog 11 #[.agg #[.string su, .string bo, .slice A ps.length c]] w fun e w' => ∃ (A2 : Option Addr) (c2 : Nat) (w2 : World) (S2 : Nat → Prop), e = .returned (.agg #[.string su, .string bo, .slice A2 (ps.map cv).length c2]) ∧ Own w0 w' [R, Chunk.frz w2 S2] ∧ Below w0.heap.size w0 w2 ∧ Kd.F KP w2 (okF w0 S2) A ps.length ps ∧ Kd.F KQ w2 (okF w0 S2) A2 (ps.map cv).length (ps.map cv) ∧ (ps.map cv).length ≤ c2 := by
  obtain ⟨k, hk⟩ := of_ev su bo ps hz
  have hF2 := frz_F HO (i := 1) rfl hb1 hF
  refine (colloquylaw20_of.calls k su bo _ A c ps _ _ _ w (Kd.V_mk hc hF2) (hk k (Nat.le_refl _))).mono ?_
  rintro e w' ⟨v, rfl, hN, hb⟩
  obtain ⟨A2, c2, rfl⟩ := Kd.N_slice hN
  exact ⟨A2, c2, w', _, rfl, frz_grow HO 1 rfl hb, (HO.after hb).below, Kd.F_mono (Kd.F_below hF2 hb) (fun k hk => hk.elim .inl fun h => .inr (.inl h)), Kd.F_mono (Kd.F_bound (Kd.N_F hN)) (fun k hk => hk.1.elim (fun h => h.elim .inl fun h => .inr (.inl h)) fun h => .inr (.inr ⟨h, hk.2⟩)), (Kd.N_reads' hN).2.1⟩
abbrev firstL : List PP := [⟨⟨#[103]⟩, [⟨⟨#[116]⟩, 1⟩]⟩]
theorem first_frz (w0 w : World) (R : Chunk) (HO : Own w0 w [R]) : Calls Tryd.prog 21 #[] w fun e w' => ∃ (A2 : Option Addr) (c2 : Nat) (w1 : World) (S : Nat → Prop), e = .returned (.agg #[.string ⟨#[115]⟩, .string ⟨#[98]⟩, .slice A2 firstL.length c2]) ∧ Own w0 w' [Chunk.frz w1 S, R] ∧ Below w0.heap.size w0 w1 ∧ Kd.F KP w1 (okF w0 S) A2 firstL.length firstL ∧ firstL.length ≤ c2 := by
  refine (colloquylaw20_first.calls _ _ _ w rfl).mono ?_
  rintro e w' ⟨v, rfl, hN, hb⟩
  obtain ⟨A2, c2, rfl⟩ := Kd.N_slice hN
  exact ⟨A2, c2, w', _, rfl, frz_new HO hb, (HO.after hb).below, Kd.F_mono (Kd.F_bound (Kd.N_F hN)) (fun k hk => .inr ⟨hk.1, hk.2⟩), (Kd.N_reads' hN).2.1⟩
theorem parse_frz (w0 w : World) (R : Chunk) (s : ByteArray) (hs : s.size ≤ 100000000) (hL : LaidW w0) (HO : Own w0 w [R]) : Calls Tryd.prog 18 #[.string s] w fun e w' => ∃ (A2 : Option Addr) (c2 : Nat) (w1 : World) (S : Nat → Prop), e = .returned (.tuple #[.agg #[.string (outS s).1, .string (outS s).2.1, .slice A2 (outS s).2.2.length c2], .int .i64 (codeP s), .int .i64 (parseP s).2]) ∧ Own w0 w' [Chunk.frz w1 S, R] ∧ Below w0.heap.size w0 w1 ∧ Kd.F KP w1 (okF w0 S) A2 (outS s).2.2.length (outS s).2.2 ∧ (outS s).2.2.length ≤ c2 := by
  refine (parse_calls s w hs (hL.own HO)).mono ?_
  rintro e w' ⟨A2, c2, S, rfl, ho⟩
  have h1 := HO.fresh ho
  obtain ⟨h2, h3, h4, h5⟩ := frz_view h1 0 rfl
  exact ⟨A2, c2, w', S, rfl, h2, h5, h3, h4⟩
end
section
theorem told_yes {s su bo : ByteArray} {l : List PP} (h : parseP s = (some (su, bo, l), 0)) : outS s = (su, bo, l) ∧ codeP s = 0 ∧ (parseP s).2 = 0 := by
  unfold outS codeP
  rw [h]
  exact ⟨rfl, rfl, rfl⟩
theorem parse_told (w0 w : World) (R : Chunk) (s su bo : ByteArray) (l : List PP) (code at_ : Int) (h : outS s = (su, bo, l) ∧ codeP s = code ∧ (parseP s).2 = at_) (hs : s.size ≤ 100000000) (hL : LaidW w0) (HO : Own w0 w [R]) : Calls Tryd.prog 18 #[.string s] w fun e w' => ∃ (A2 : Option Addr) (c2 : Nat) (w1 : World) (S : Nat → Prop), e = .returned (.tuple #[.agg #[.string su, .string bo, .slice A2 l.length c2], .int .i64 code, .int .i64 at_]) ∧ Own w0 w' [Chunk.frz w1 S, R] ∧ Below w0.heap.size w0 w1 ∧ Kd.F KP w1 (okF w0 S) A2 l.length l ∧ l.length ≤ c2 := by
  have := parse_frz w0 w R s hs hL HO
  rw [h.1, h.2.1, h.2.2] at this
  exact this
end
theorem firstL_sz : szP firstL := ⟨by decide, by decide⟩
theorem dec_one : Lib.decDigits 1 = [49] := by rw [Lib.decDigits, dif_pos (by decide)]; rfl
abbrev sB : ByteArray := ⟨#[115]⟩
abbrev bB : ByteArray := ⟨#[98]⟩
abbrev oneB : ByteArray := ⟨#[84, 101, 115, 116, 32, 114, 117, 110, 32, 111, 102, 32, 115, 10, 66, 111, 97, 114, 100, 32, 98, 10, 103, 114, 111, 117, 112, 32, 103, 10, 80, 65, 83, 83, 58, 32, 116, 10, 35, 32, 80, 65, 83, 83, 32, 49, 10, 35, 32, 101, 110, 100, 10]⟩
theorem right_one : rightS sB bB firstL = true := by decide +kernel
theorem tots_one : totsL firstL 8 = [(⟨#[35, 32]⟩ : ByteArray) ++ vtB 1 ++ (⟨#[32]⟩ : ByteArray) ++ itB (totL firstL 1)] := rfl
theorem it_one : itB (totL firstL 1) = ⟨#[49]⟩ := by
  show itB 1 = _
  unfold itB Lib.itoa
  rw [if_neg (by decide), show (1 : Int).toNat = 1 from rfl, dec_one]
theorem text_one : textL sB bB firstL = oneB := by
  unfold textL linesL
  rw [if_pos right_one, tots_one, it_one]
  decide +kernel
end
section
section
attribute [local go_sem high] eqA49
theorem op_eqR {o : Oper} {a : Act} {w : World} {x y : Operand} {yt : TypeId} {s u : ByteArray} {m n : Int} (ho : o.op = .binOp .eql 49 x y yt) (hx : a.eval x = .agg #[.string s, .int .i64 m]) (hy : a.eval y = .agg #[.string u, .int .i64 n]) : Runs Tryd.prog o a w (.bool (s.toList == u.toList && (m == n))) w := by
  have hu := Tryd.underlying49
  unfold Runs execOp
  simp only [ho, hx, hy]
  simp [go_sem, hu]
end
theorem and_low (x : Int) (m : Nat) (hm : m < 9223372036854775808) : 0 ≤ Go.bits .and .i64 x (m : Int) ∧ Go.bits .and .i64 x (m : Int) ≤ m := by
  have h : Go.bits .and .i64 x (m : Int) = IntKind.i64.wrap ((BitVec.ofInt 64 x &&& BitVec.ofInt 64 (m : Int)).toNat : Int) := rfl
  have h2 : (BitVec.ofInt 64 x &&& BitVec.ofInt 64 (m : Int)).toNat ≤ m := by
    rw [BitVec.toNat_and]
    refine Nat.le_trans Nat.and_le_right ?_
    rw [BitVec.toNat_ofInt]
    omega
  rw [h]
  generalize (BitVec.ofInt 64 x &&& BitVec.ofInt 64 (m : Int)).toNat = n at h2 ⊢
  have : IntKind.i64.wrap (n : Int) = n := IntWalk.i64_in _ (by omega)
  rw [this]
  omega
section
variable {w0 w : World} {L : List Chunk} {a b : ByteArray} {v : Int}
abbrev forgeL (a b : ByteArray) (v : Int) : List PP := [⟨⟨#[103]⟩, [⟨a, v⟩, ⟨b, 1⟩]⟩]
theorem forge_sz : szP (forgeL a b v) := ⟨by simp, by simp⟩
theorem forge_right (hv : 1 ≤ v ∧ v ≤ 7) : rightS sB bB (forgeL a b v) = (Pure.rightB a && Pure.rightB b) := by
  have h1 : Pure.rightB sB = true := by decide
  have h2 : Pure.rightB bB = true := by decide
  have h3 : Pure.rightB ⟨#[103]⟩ = true := by decide
  unfold rightS
  rw [h1, h2, List.all_cons, List.all_nil, partOK, h3, List.all_cons, List.all_cons, List.all_nil, resOK, resOK]
  rw [decide_eq_true hv, decide_eq_true (show (1 : Int) ≤ 1 ∧ (1 : Int) ≤ 7 by decide)]
  simp
theorem forge_no (hv : 1 ≤ v ∧ v ≤ 7) (h : rightS sB bB (forgeL a b v) = false) : a.size < 1 ∨ 80 < a.size ∨ b.size < 1 ∨ 80 < b.size := by
  rw [forge_right hv] at h
  unfold Pure.rightB at h
  by_cases h1 : 1 ≤ a.size ∧ a.size ≤ 80
  · by_cases h2 : 1 ≤ b.size ∧ b.size ≤ 80
    · rw [decide_eq_true h1, decide_eq_true h2] at h; cases h
    · omega
  · omega
end
theorem k49_openF {w : World} {ok : Nat → Prop} {x : RS} {cs : List Value} (h : Kd.FK KR w ok x cs) : cs = [.string x.f0, .int .i64 x.f1] := k49_open (Kd.FK_now h)
end
namespace GText_
theorem text_calls (su bo : ByteArray) (A0 : Option Addr) (c0 : Nat) (ps : List S46) (w : World) (hr : Kd.C k46 w A0 ps.length ps) (hc : ps.length ≤ c0) (hsm : ps.length + sumL ps ≤ 1000000000) (hL : LaidW w) (hz : szP ps) :
    Calls Tryd.prog 16 #[.agg #[.string su, .string bo, .slice A0 ps.length c0]] w fun e w' => e = .returned (.string (textL su bo ps)) ∧ Below w.heap.size w w' := by
 have hpl := len_C hr
 have hll := lines_len su bo ps
 have hcz : (catL (linesL su bo ps)).size ≤ 140737488355328 := by have h_ := cat_size _ (line_sz su bo ps (by omega)); omega
 refine gw_start (N := 10) (vs := [.agg #[.string su, .string bo, .slice A0 ps.length c0]]) Tryd.func16 rfl rfl (by simp) fun a HF HO => ?_
 replace HO : Own w w [] := HO
 refine gR fun K1 hK1 => ?_
 refine gw_new HF HO (want_none rfl) rfl (by decide) (op_box rfl (HF.ev rfl)) ?_
 intro g2 _ w4 H5 O6; clear HF HO
 have O7 : Own w w4 [Bk g2 [.string su, .string bo, .slice A0 ps.length c0] 24] := O6
 clear O6
 refine Vc H5 fun _ H9 => ?_
 refine gE hK1 ?_
 refine gw_seq fun K10 hK10 => ?_
 refine gR fun K11 hK11 => ?_
 refine V H9 (op_loadn gwagg24 gwsiz24 rfl (H9.ev rfl) (O7.get 0 rfl) rfl rfl) fun _ H13 => ?_
 clear H5 H9
 refine Wk H13 Tryd.func14 rfl (ar_cons (H13.ev rfl) ar_nil) (right_calls A0 c0 su bo ps _ hz (Kd.C_below hr O7.below) hc) ?_
 rintro e14 w15 ⟨rfl, hb16⟩
 refine ⟨_, rfl, fun _ H18 => ?_⟩
 have O19 := O7.after hb16
 clear H13 O7 hb16
 refine V H18 (op_not rfl (H18.ev rfl)) fun _ H22 => ?_
 refine gE hK11 ?_
 clear H18
 refine gw_cond H22 rfl (fun hb23 => ?_) (fun hb23 => ?_)
 ·
  have H24 := H22.subst_ (d := 5) (b := true) rfl hb23
  clear H22
  (try simp only [Bool.and_eq_true, Bool.and_eq_false_iff, Bool.not_and, Bool.or_eq_true, Bool.or_eq_false_iff, Bool.not_or, Bool.not_not, Bool.not_eq_true', Bool.not_eq_false', Bool.not_eq_true, Bool.not_eq_false] at hb23)
  have hno : rightS su bo ps = false := by have hb_ := hb23; revert hb_; cases rightS su bo ps <;> simp
  refine gR fun K25 hK25 => ?_
  refine Vc H24 fun _ H27 => ?_
  refine gE hK25 ?_
  refine wp_ret ?_
  clear H24
  refine gw_thr ?_
  refine gw_ret1 H27 rfl rfl ?_
  exact ⟨by unfold textL; rw [if_neg (by rw [hno]; decide)], O19.below⟩
 have H28 := H22.subst_ (d := 5) (b := false) rfl hb23
 clear H22
 (try simp only [Bool.and_eq_true, Bool.and_eq_false_iff, Bool.not_and, Bool.or_eq_true, Bool.or_eq_false_iff, Bool.not_or, Bool.not_not, Bool.not_eq_true', Bool.not_eq_false', Bool.not_eq_true, Bool.not_eq_false] at hb23)
 have hyes : rightS su bo ps = true := by have hb_ := hb23; revert hb_; cases rightS su bo ps <;> simp
 refine gS hK10 ?_
 refine gR fun K29 hK29 => ?_
 refine V H28 (op_loadn gwagg24 gwsiz24 rfl (H28.ev rfl) (O19.get 0 rfl) rfl rfl) fun _ H31 => ?_
 clear H28
 refine Wk H31 Tryd.func28 rfl (ar_cons (H31.ev rfl) ar_nil) (lines_calls su bo A0 c0 ps _ (Kd.C_below hr O19.below) hc hsm (hL.own O19)) ?_
 rintro e35 w36 ⟨A32, c33, S34, rfl, hb37⟩
 refine ⟨_, rfl, fun _ H39 => ?_⟩
 have O40 := O19.fresh hb37
 have hbel41 := O19.below
 clear H31 O19 hb37
 have O42 := O40.lowrow 0 rfl (base' := w.heap.size) (Below.size hbel41)
 refine Wk H39 Tryd.func27 rfl (ar_cons (H39.ev rfl) (ar_cons (ev_c _ _) ar_nil)) (join_row (O42.get 0 rfl) (by intro h_; have h2_ := lines_len su bo ps; rw [h_] at h2_; simp at h2_) (by have h2_ := lines_len su bo ps; omega) hcz) ?_
 rintro e43 w44 ⟨rfl, hb45⟩
 refine ⟨_, rfl, fun _ H47 => ?_⟩
 have O48 := O42.after hb45
 clear H39 O42 hb45
 refine V H47 (op_cats rfl (H47.ev rfl) (ev_c _ _) (by have h_ : (joinB (linesL su bo ps)).size = (Lib.join ((linesL su bo ps).map (·.data.toList)) [10]).length := List.size_toArray ..; have h2_ := join_size (linesL su bo ps) (by intro h3_; rw [h3_] at hll; simp at hll); show (joinB (linesL su bo ps)).size + 1 ≤ _; omega)) fun _ H51 => ?_
 refine Va H51 fun _ H53 => ?_
 refine gE hK29 ?_
 refine wp_ret ?_
 clear H47 H51
 refine gw_ret1 H53 rfl rfl ?_
 exact ⟨by unfold textL; rw [if_pos hyes, ← join_cat (linesL su bo ps) (by intro h3_; rw [h3_] at hll; simp at hll)], O48.below⟩
end GText_
export GText_ (text_calls)
namespace GAlive_
theorem alive_walk (w : World) (hL : LaidW w) :
    Calls Tryd.prog 9 #[] w fun e w' => e = .returned (.bool true) ∧ Below w.heap.size w w' := by
 refine gw_start (N := 36) (vs := []) Tryd.func9 rfl rfl (by simp) fun a HF HO => ?_
 replace HO : Own w w [] := HO
 refine gR fun K1 hK1 => ?_
 refine Vc HF ?_
 intro _ H3; clear HF
 refine gE hK1 ?_
 refine gR fun K4 hK4 => ?_
 have O19 : Own w _ [(Chunk.all [])] := Own.bundle (HO.sel [] (by decide))
 refine Wk H3 Tryd.func21 rfl ar_nil (first_frz w _ (Chunk.all []) O19) ?_
 rintro e13 w14 ⟨A5, c6, wz7, S8, rfl, hb15, hbz9, hFz10, hlz11⟩
 refine ⟨_, rfl, fun _ H17 => ?_⟩
 have O18 : Own w w14 [Chunk.frz wz7 S8] := Own.unbundle (hb15.sel [1, 0] (by decide))
 clear O19
 clear H3 HO hb15
 refine Wk H17 Tryd.func16 rfl (ar_cons (H17.ev rfl) ar_nil) (text_calls (⟨#[115]⟩ : ByteArray) (⟨#[98]⟩ : ByteArray) A5 c6 firstL _ (frz_C (i := 0) O18 rfl hbz9 hFz10) hlz11 (by decide : firstL.length + sumL firstL ≤ 1000000000) (hL.own O18) firstL_sz) ?_
 rintro e21 w22 ⟨rfl, hb23⟩
 refine ⟨_, rfl, fun _ H25 => ?_⟩
 have O26 := O18.after hb23
 clear H17 O18 hb23
 refine Va H25 fun _ H29 => ?_
 refine gE hK4 ?_
 refine gR fun K30 hK30 => ?_
 refine Vm H29 fun _ H32 => ?_
 clear H25 H29
 have O47 : Own w _ [(Chunk.all [Chunk.frz wz7 S8])] := Own.bundle (O26.sel [0] (by decide))
 refine Wk H32 Tryd.func18 rfl (ar_cons (H32.ev rfl) ar_nil) (parse_told w _ (Chunk.all [Chunk.frz wz7 S8]) (textL (⟨#[115]⟩ : ByteArray) (⟨#[98]⟩ : ByteArray) firstL) (⟨#[115]⟩ : ByteArray) (⟨#[98]⟩ : ByteArray) firstL 0 0 (told_yes (parse_text _ _ _ right_one)) (by rw [text_one]; decide) hL O47) ?_
 rintro e41 w42 ⟨A33, c34, wz35, S36, rfl, hb43, hbz37, hFz38, hlz39⟩
 refine ⟨_, rfl, fun _ H45 => ?_⟩
 have O46 : Own w w42 [Chunk.frz wz7 S8, Chunk.frz wz35 S36] := Own.unbundle (hb43.sel [1, 0] (by decide))
 clear O47
 clear H32 O26 hb43
 refine Vm H45 fun _ H50 => ?_
 refine Vx H50 fun _ H52 => ?_
 refine Vx H52 fun _ H54 => ?_
 refine Vx H54 fun _ H56 => ?_
 clear H45 H50 H52 H54
 refine gw_new H56 O46 (want_none rfl) rfl (by decide) (op_alloc gwzer24 rfl) ?_
 intro g57 _ w59 H60 O61; clear H56 O46
 have O62 : Own w w59 [Bk g57 [.string (⟨#[]⟩ : ByteArray), .string (⟨#[]⟩ : ByteArray), .slice none 0 0] 24, Chunk.frz wz7 S8, Chunk.frz wz35 S36] := O61
 clear O61
 refine gw_setn 0 H60 O62 rfl (want_none rfl) rfl (op_storen gwsiz24 rfl (H60.ev rfl) (H60.ev rfl) (O62.get 0 rfl) rfl (by simp) (by simp [Value.oneCell'])) ?_
 intro _ w65 H64 O66; clear H60 O62
 refine Va H64 fun _ H68 => ?_
 refine Va H68 fun _ H70 => ?_
 refine gE hK30 ?_
 refine gR fun K71 hK71 => ?_
 refine Vm H70 fun _ H73 => ?_
 refine V H73 (op_eqs rfl (H73.ev rfl) (ev_c _ _)) fun _ H75 => ?_
 clear H64 H68 H70 H73
 have H76 := H75.lit (b := true) (by rw [text_one]; simp)
 clear H75
 refine Vm H76 fun _ H78 => ?_
 refine V2 H78 (want_yes H78 rfl rfl rfl rfl) (op_move rfl (H78.ev rfl)) fun _ H80 => ?_
 refine V2 H80 (want_yes H80 rfl rfl rfl rfl) (op_eqi rfl (H80.ev rfl) (ev_c _ _)) fun _ H82 => ?_
 clear H76 H78 H80
 have H83 := H82.lit (b := true) (by decide)
 clear H82
 refine V H83 (op_pick_t rfl (H83.ev rfl) (H83.ev rfl)) fun _ H85 => ?_
 refine Vm H85 fun _ H87 => ?_
 refine V2 H87 (want_yes H87 rfl rfl rfl rfl) (op_loadn gwagg24 gwsiz24 rfl (H87.ev rfl) (O66.get 0 rfl) rfl rfl) fun _ H89 => ?_
 clear H83 H85 H87
 have O103 : Own w _ [(Chunk.all [Bk g57 [.string (⟨#[115]⟩ : ByteArray), .string (⟨#[98]⟩ : ByteArray), .slice A33 firstL.length c34] 24, Chunk.frz wz7 S8]), Chunk.frz wz35 S36] := Own.bundle (O66.sel [0, 1, 2] (by decide))
 refine gw_call H89 (want_yes H89 rfl rfl rfl rfl) rfl (by decide) (op_callL Tryd.func11 (by kernel_rfl) rfl rfl (ar_cons (H89.ev rfl) ar_nil)) (of_frz w _ wz35 (Chunk.all [Bk g57 [.string (⟨#[115]⟩ : ByteArray), .string (⟨#[98]⟩ : ByteArray), .slice A33 firstL.length c34] 24, Chunk.frz wz7 S8]) S36 A33 c34 (⟨#[115]⟩ : ByteArray) (⟨#[98]⟩ : ByteArray) firstL firstL_sz hbz37 hFz38 hlz39 O103) ?_
 rintro e97 w98 ⟨A90, c91, wz92, S93, rfl, hb99, hbz94, hFz38, hFz95, hlz96⟩
 refine ⟨_, rfl, fun _ H101 => ?_⟩
 have O102 : Own w w98 [Bk g57 [.string (⟨#[115]⟩ : ByteArray), .string (⟨#[98]⟩ : ByteArray), .slice A33 firstL.length c34] 24, Chunk.frz wz7 S8, Chunk.frz wz92 S93] := Own.unbundle (hb99.sel [0, 1] (by decide))
 clear O103
 clear H89 O66 hb99
 have O119 : Own w _ [(Chunk.all [Bk g57 [.string (⟨#[115]⟩ : ByteArray), .string (⟨#[98]⟩ : ByteArray), .slice A33 firstL.length c34] 24, Chunk.frz wz7 S8, Chunk.frz wz92 S93])] := Own.bundle (O102.sel [0, 1, 2] (by decide))
 refine gw_call H101 (want_yes H101 rfl rfl rfl rfl) rfl (by decide) (op_callL Tryd.func21 (by kernel_rfl) rfl rfl ar_nil) (first_frz w _ (Chunk.all [Bk g57 [.string (⟨#[115]⟩ : ByteArray), .string (⟨#[98]⟩ : ByteArray), .slice A33 firstL.length c34] 24, Chunk.frz wz7 S8, Chunk.frz wz92 S93]) O119) ?_
 rintro e113 w114 ⟨A105, c106, wz107, S108, rfl, hb115, hbz109, hFz110, hlz111⟩
 refine ⟨_, rfl, fun _ H117 => ?_⟩
 have O118 : Own w w114 [Bk g57 [.string (⟨#[115]⟩ : ByteArray), .string (⟨#[98]⟩ : ByteArray), .slice A33 firstL.length c34] 24, Chunk.frz wz7 S8, Chunk.frz wz92 S93, Chunk.frz wz107 S108] := Own.unbundle (hb115.sel [1, 0] (by decide))
 clear O119
 clear H101 O102 hb115
 have O134 : Own w _ [(Chunk.all [Bk g57 [.string (⟨#[115]⟩ : ByteArray), .string (⟨#[98]⟩ : ByteArray), .slice A33 firstL.length c34] 24, Chunk.frz wz7 S8, Chunk.frz wz92 S93]), Chunk.frz wz107 S108] := Own.bundle (O118.sel [0, 1, 2, 3] (by decide))
 refine gw_call H117 (want_yes H117 rfl rfl rfl rfl) rfl (by decide) (op_callL Tryd.func11 (by kernel_rfl) rfl rfl (ar_cons (H117.ev rfl) ar_nil)) (of_frz w _ wz107 (Chunk.all [Bk g57 [.string (⟨#[115]⟩ : ByteArray), .string (⟨#[98]⟩ : ByteArray), .slice A33 firstL.length c34] 24, Chunk.frz wz7 S8, Chunk.frz wz92 S93]) S108 A105 c106 (⟨#[115]⟩ : ByteArray) (⟨#[98]⟩ : ByteArray) firstL firstL_sz hbz109 hFz110 hlz111 O134) ?_
 rintro e128 w129 ⟨A121, c122, wz123, S124, rfl, hb130, hbz125, hFz110, hFz126, hlz127⟩
 refine ⟨_, rfl, fun _ H132 => ?_⟩
 have O133 : Own w w129 [Bk g57 [.string (⟨#[115]⟩ : ByteArray), .string (⟨#[98]⟩ : ByteArray), .slice A33 firstL.length c34] 24, Chunk.frz wz7 S8, Chunk.frz wz92 S93, Chunk.frz wz123 S124] := Own.unbundle (hb130.sel [0, 1] (by decide))
 clear O134
 clear H117 O118 hb130
 refine gw_call H132 (want_yes H132 rfl rfl rfl rfl) rfl (by decide) (op_callL Tryd.func20 (by kernel_rfl) rfl rfl (ar_cons (H132.ev rfl) (ar_cons (H132.ev rfl) ar_nil))) (same_calls A90 A121 c91 c122 (⟨#[115]⟩ : ByteArray) (⟨#[98]⟩ : ByteArray) firstL _ firstL_sz (frz_C (i := 2) O133 rfl hbz94 hFz95) hlz96 (frz_C (i := 3) O133 rfl hbz125 hFz126) hlz127) ?_
 rintro e136 w137 ⟨rfl, hb138⟩
 refine ⟨_, rfl, fun _ H140 => ?_⟩
 have O141 := O133.after hb138
 clear H132 O133 hb138
 refine V H140 (op_pick_t rfl (H140.ev rfl) (H140.ev rfl)) fun _ H144 => ?_
 refine Vm H144 fun _ H146 => ?_
 refine V2 H146 (want_yes H146 rfl rfl rfl rfl) (op_loadn gwagg24 gwsiz24 rfl (H146.ev rfl) (O141.get 0 rfl) rfl rfl) fun _ H148 => ?_
 clear H140 H144 H146
 refine gw_call H148 (want_yes H148 rfl rfl rfl rfl) rfl (by decide) (op_callL Tryd.func12 (by kernel_rfl) rfl rfl (ar_cons (H148.ev rfl) ar_nil)) (totals_calls (⟨#[115]⟩ : ByteArray) (⟨#[98]⟩ : ByteArray) A33 c34 firstL _ (frz_C (i := 2) O141 rfl hbz94 hFz38) hlz39 (by decide : sumL firstL ≤ 1000000000)) ?_
 rintro e149 w150 ⟨rfl, hb151⟩
 refine ⟨_, rfl, fun _ H153 => ?_⟩
 have O154 := O141.after hb151
 clear H148 O141 hb151
 refine V2 H153 (want_yes H153 rfl rfl rfl rfl) (op_aidx Tryd.underlying31 gwsiz3 gwagg3 rfl (H153.ev rfl) (ev_c _ _) (by decide) rfl) fun _ H157 => ?_
 refine V2 H157 (want_yes H157 rfl rfl rfl rfl) (op_eqi rfl (H157.ev rfl) (ev_c _ _)) fun _ H159 => ?_
 clear H153 H157
 have H160 := H159.lit (b := true) (by decide)
 clear H159
 refine V H160 (op_pick_t rfl (H160.ev rfl) (H160.ev rfl)) fun _ H162 => ?_
 refine Vm H162 fun _ H164 => ?_
 refine V2 H164 (want_yes H164 rfl rfl rfl rfl) (op_loadn gwagg24 gwsiz24 rfl (H164.ev rfl) (O154.get 0 rfl) rfl rfl) fun _ H166 => ?_
 clear H160 H162 H164
 refine gw_call H166 (want_yes H166 rfl rfl rfl rfl) rfl (by decide) (op_callL Tryd.func14 (by kernel_rfl) rfl rfl (ar_cons (H166.ev rfl) ar_nil)) (right_calls A33 c34 (⟨#[115]⟩ : ByteArray) (⟨#[98]⟩ : ByteArray) firstL _ firstL_sz (frz_C (i := 2) O154 rfl hbz94 hFz38) hlz39) ?_
 rintro e167 w168 ⟨rfl, hb169⟩
 refine ⟨_, rfl, fun _ H171 => ?_⟩
 have O172 := O154.after hb169
 clear H166 O154 hb169
 have H174 := H171.lit (b := true) (by exact right_one)
 clear H171
 refine V H174 (op_pick_t rfl (H174.ev rfl) (H174.ev rfl)) fun _ H176 => ?_
 refine Va H176 fun _ H178 => ?_
 refine gE hK71 ?_
 refine wp_ret ?_
 clear H174 H176
 refine gw_ret1 H178 rfl rfl ?_
 exact ⟨rfl, O172.below⟩
end GAlive_
export GAlive_ (alive_walk)
namespace GForges_
theorem forges_walk (na nb : ByteArray) (vv : Int) (w : World) (hL : LaidW w) :
    Calls Tryd.prog 7 #[.string na, .string nb, .int .i64 vv] w fun e w' => e = .returned (.bool true) ∧ Below w.heap.size w w' := by
 refine gw_start (N := 98) (vs := [.string na, .string nb, J vv]) Tryd.func7 rfl rfl (by simp) fun a HF HO => ?_
 replace HO : Own w w [] := HO
 refine gR fun K1 hK1 => ?_
 refine Vc HF ?_
 intro _ H3; clear HF
 refine gE hK1 ?_
 refine gw_seq fun K4 hK4 => ?_
 refine gR fun K5 hK5 => ?_
 refine Wk H3 Tryd.func9 rfl ar_nil (alive_walk _ (hL.own HO)) ?_
 rintro e6 w7 ⟨rfl, hb8⟩
 refine ⟨_, rfl, fun _ H10 => ?_⟩
 have O11 := HO.after hb8
 clear H3 HO hb8
 refine V H10 (op_not rfl (H10.ev rfl)) fun _ H14 => ?_
 refine gE hK5 ?_
 clear H10
 refine gw_cond H14 rfl (fun hb15 => ?_) (fun hb15 => ?_)
 ·
  cases hb15
 refine gS hK4 ?_
 refine gR fun K16 hK16 => ?_
 refine Vm H14 fun _ H18 => ?_
 refine V H18 (op_and rfl (H18.ev rfl) (ev_c _ _)) fun _ H20 => ?_
 clear H14 H18
 obtain ⟨kv, hkv, hkv0, hkv1⟩ : ∃ k_ : Int, bits .and .i64 vv 1023 = k_ ∧ 0 ≤ k_ ∧ k_ ≤ 1023 := ⟨_, rfl, and_low vv 1023 (by decide)⟩
 have H21 := H20.conv (v' := J kv) (congrArg (Value.int .i64) hkv)
 clear H20
 refine V H21 (op_rem rfl (H21.ev rfl) (ev_c _ _) (by omega)) fun _ H23 => ?_
 clear H21
 obtain ⟨rm, hrm, hrm0, hrm1⟩ : ∃ k_ : Int, Int.tmod kv 7 = k_ ∧ 0 ≤ k_ ∧ k_ < 7 := ⟨_, rfl, Int.tmod_nonneg _ (by omega), Int.tmod_lt_of_pos _ (by omega)⟩
 have H24 := H23.conv (v' := J rm) (congrArg (Value.int .i64) hrm)
 clear H23
 refine V H24 (op_add rfl (ev_c _ _) (H24.ev rfl) (by omega)) fun _ H26 => ?_
 clear H24
 have hfl : (forgeL na nb (1 + rm)).length = 1 := rfl
 have hfl2 : ((forgeL na nb (1 + rm)).getD (0 : Int).toNat z46).f1.length = 2 := rfl
 have hfz : szP (forgeL na nb (1 + rm)) := forge_sz
 have hfs : (forgeL na nb (1 + rm)).length + sumL (forgeL na nb (1 + rm)) = 3 := rfl
 refine Va H26 fun _ H28 => ?_
 refine gE hK16 ?_
 refine gR fun K29 hK29 => ?_
 refine Vm H28 fun _ H31 => ?_
 refine Vm H31 fun _ H33 => ?_
 refine V H33 (op_build (cells := #[.string na, J (1 + rm)]) rfl (pt_cons (H33.ev rfl) (pt_cons (H33.ev rfl) pt_nil)) (by kernel_rfl)) fun _ H35 => ?_
 refine Vm H35 fun _ H37 => ?_
 refine V H37 (op_build (cells := #[.string nb, J 1]) rfl (pt_cons (H37.ev rfl) (pt_cons (ev_c _ _) pt_nil)) (by kernel_rfl)) fun _ H39 => ?_
 clear H26 H28 H31 H33 H35 H37
 refine gw_news (O := .cells #[.string na, J (1 + rm), .string nb, J 1] 49 (0, 0)) (n := 2) H39 O11 (want_none rfl) rfl (by decide) (op_bslice (by kernel_rfl) rfl (pt_cons (H39.ev rfl) (pt_cons (H39.ev rfl) pt_nil))) ?_
 intro g40 _ w42 H43 O44; clear H39 O11
 have O45 : Own w w42 [Bk g40 [.string na, J (1 + rm), .string nb, J 1] 49] := O44
 clear O44
 refine V H43 (op_build (cells := #[.string (⟨#[103]⟩ : ByteArray), .slice (some ⟨g40, 0, none⟩) (([(⟨na, 1 + rm⟩ : S49), (⟨nb, 1⟩ : S49)]).length) (([(⟨na, 1 + rm⟩ : S49), (⟨nb, 1⟩ : S49)]).length)]) rfl (pt_cons (ev_c _ _) (pt_cons (H43.ev rfl) pt_nil)) (by kernel_rfl)) fun _ H47 => ?_
 clear H43
 refine gw_news (O := .cells #[.string (⟨#[103]⟩ : ByteArray), .slice (some ⟨g40, 0, none⟩) (([(⟨na, 1 + rm⟩ : S49), (⟨nb, 1⟩ : S49)]).length) (([(⟨na, 1 + rm⟩ : S49), (⟨nb, 1⟩ : S49)]).length)] 46 (0, 0)) (n := 1) H47 O45 (want_none rfl) rfl (by decide) (op_bslice (by kernel_rfl) rfl (pt_cons (H47.ev rfl) pt_nil)) ?_
 intro g48 _ w50 H51 O52; clear H47 O45
 have O53 : Own w w50 [Bk g48 [.string (⟨#[103]⟩ : ByteArray), .slice (some ⟨g40, 0, none⟩) (([(⟨na, 1 + rm⟩ : S49), (⟨nb, 1⟩ : S49)]).length) (([(⟨na, 1 + rm⟩ : S49), (⟨nb, 1⟩ : S49)]).length)] 46, Bk g40 [.string na, J (1 + rm), .string nb, J 1] 49] := O52
 clear O52
 refine V H51 (op_build (cells := #[.string (⟨#[115]⟩ : ByteArray), .string (⟨#[98]⟩ : ByteArray), .slice (some ⟨g48, 0, none⟩) ((forgeL na nb (1 + rm)).length) 1]) rfl (pt_cons (ev_c _ _) (pt_cons (ev_c _ _) (pt_cons (H51.ev rfl) pt_nil))) (by kernel_rfl)) fun _ H55 => ?_
 clear H51
 refine gw_new H55 O53 (want_none rfl) rfl (by decide) (op_alloc gwzer24 rfl) ?_
 intro g56 _ w58 H59 O60; clear H55 O53
 have O61 : Own w w58 [Bk g56 [.string (⟨#[]⟩ : ByteArray), .string (⟨#[]⟩ : ByteArray), .slice none 0 0] 24, Bk g48 [.string (⟨#[103]⟩ : ByteArray), .slice (some ⟨g40, 0, none⟩) (([(⟨na, 1 + rm⟩ : S49), (⟨nb, 1⟩ : S49)]).length) (([(⟨na, 1 + rm⟩ : S49), (⟨nb, 1⟩ : S49)]).length)] 46, Bk g40 [.string na, J (1 + rm), .string nb, J 1] 49] := O60
 clear O60
 refine gw_setn 0 H59 O61 rfl (want_none rfl) rfl (op_storen gwsiz24 rfl (H59.ev rfl) (H59.ev rfl) (O61.get 0 rfl) rfl (by simp) (by simp [Value.oneCell'])) ?_
 intro _ w64 H63 O65; clear H59 O61
 refine gE hK29 ?_
 refine gR fun K66 hK66 => ?_
 refine V H63 (op_loadn gwagg24 gwsiz24 rfl (H63.ev rfl) (O65.get 0 rfl) rfl rfl) fun _ H68 => ?_
 clear H63
 refine Wk H68 Tryd.func16 rfl (ar_cons (H68.ev rfl) ar_nil) (text_calls (⟨#[115]⟩ : ByteArray) (⟨#[98]⟩ : ByteArray) (some ⟨g48, 0, none⟩) 1 (forgeL na nb (1 + rm)) _ (Cg_lit (cs := [.string (⟨#[103]⟩ : ByteArray), .slice (some ⟨g40, 0, none⟩) (([(⟨na, 1 + rm⟩ : S49), (⟨nb, 1⟩ : S49)]).length) (([(⟨na, 1 + rm⟩ : S49), (⟨nb, 1⟩ : S49)]).length)]) (O65.get 1 rfl) (reps_more (k46_mk _ (⟨(⟨#[103]⟩ : ByteArray), [(⟨na, 1 + rm⟩ : S49), (⟨nb, 1⟩ : S49)]⟩ : S46) (Nat.le_refl _) (Cg_lit (cs := [.string na, J (1 + rm), .string nb, J 1]) (O65.get 2 rfl) (reps_more (k49_mk _ (⟨na, 1 + rm⟩ : S49)) rfl (reps_more (k49_mk _ (⟨nb, 1⟩ : S49)) rfl reps_none)) (by simp [maxLen]))) rfl reps_none) (by simp [maxLen])) (Nat.le_refl _) (by omega) (hL.own O65) hfz) ?_
 rintro e69 w70 ⟨rfl, hb71⟩
 refine ⟨_, rfl, fun _ H73 => ?_⟩
 have O74 := O65.after hb71
 clear H68 O65 hb71
 refine Va H73 fun _ H77 => ?_
 refine gE hK66 ?_
 refine gw_seq fun K78 hK78 => ?_
 refine gR fun K79 hK79 => ?_
 refine V H77 (op_loadn gwagg24 gwsiz24 rfl (H77.ev rfl) (O74.get 0 rfl) rfl rfl) fun _ H81 => ?_
 clear H73 H77
 refine Wk H81 Tryd.func14 rfl (ar_cons (H81.ev rfl) ar_nil) (right_calls (some ⟨g48, 0, none⟩) 1 (⟨#[115]⟩ : ByteArray) (⟨#[98]⟩ : ByteArray) (forgeL na nb (1 + rm)) _ hfz (Cg_lit (cs := [.string (⟨#[103]⟩ : ByteArray), .slice (some ⟨g40, 0, none⟩) (([(⟨na, 1 + rm⟩ : S49), (⟨nb, 1⟩ : S49)]).length) (([(⟨na, 1 + rm⟩ : S49), (⟨nb, 1⟩ : S49)]).length)]) (O74.get 1 rfl) (reps_more (k46_mk _ (⟨(⟨#[103]⟩ : ByteArray), [(⟨na, 1 + rm⟩ : S49), (⟨nb, 1⟩ : S49)]⟩ : S46) (Nat.le_refl _) (Cg_lit (cs := [.string na, J (1 + rm), .string nb, J 1]) (O74.get 2 rfl) (reps_more (k49_mk _ (⟨na, 1 + rm⟩ : S49)) rfl (reps_more (k49_mk _ (⟨nb, 1⟩ : S49)) rfl reps_none)) (by simp [maxLen]))) rfl reps_none) (by simp [maxLen])) (Nat.le_refl _)) ?_
 rintro e82 w83 ⟨rfl, hb84⟩
 refine ⟨_, rfl, fun _ H86 => ?_⟩
 have O87 := O74.after hb84
 clear H81 O74 hb84
 refine V H86 (op_not rfl (H86.ev rfl)) fun _ H90 => ?_
 refine gE hK79 ?_
 clear H86
 refine gw_cond H90 rfl (fun hb91 => ?_) (fun hb91 => ?_)
 ·
  have H92 := H90.subst_ (d := 32) (b := true) rfl hb91
  clear H90
  (try simp only [Bool.and_eq_true, Bool.and_eq_false_iff, Bool.not_and, Bool.or_eq_true, Bool.or_eq_false_iff, Bool.not_or, Bool.not_not, Bool.not_eq_true', Bool.not_eq_false', Bool.not_eq_true, Bool.not_eq_false] at hb91)
  have hno : rightS (⟨#[115]⟩ : ByteArray) (⟨#[98]⟩ : ByteArray) (forgeL na nb (1 + rm)) = false := by have hb_ := hb91; revert hb_; cases rightS (⟨#[115]⟩ : ByteArray) (⟨#[98]⟩ : ByteArray) (forgeL na nb (1 + rm)) <;> simp
  refine gR fun K93 hK93 => ?_
  refine Vm H92 fun _ H95 => ?_
  refine V H95 (op_eqs rfl (H95.ev rfl) (ev_c _ _)) fun _ H97 => ?_
  clear H92 H95
  have H98 := H97.lit (b := true) (by unfold textL; rw [if_neg (by rw [hno]; decide)]; simp)
  clear H97
  refine Vm H98 fun _ H100 => ?_
  refine V2 H100 (want_yes H100 rfl rfl rfl rfl) (op_move rfl (H100.ev rfl)) fun _ H102 => ?_
  refine V2 H102 (want_yes H102 rfl rfl rfl rfl) (op_lens Tryd.underlying9 rfl (H102.ev rfl)) fun _ H104 => ?_
  refine V2 H104 (want_yes H104 rfl rfl rfl rfl) (op_lss rfl (H104.ev rfl) (ev_c _ _)) fun _ H106 => ?_
  refine V2 H106 (want_yes H106 rfl rfl rfl rfl) (op_move rfl (H106.ev rfl)) fun _ H108 => ?_
  clear H98 H100 H102 H104 H106
  refine gw_evG H108 rfl rfl rfl rfl (on_f _) rfl (by decide) (fun h_ => (op_move rfl (H108.ev rfl))) ?_
  intro _ H110; clear H108
  refine gw_evG H110 rfl rfl rfl rfl (on_f _) rfl (by decide) (fun h_ => (op_lens Tryd.underlying9 rfl (ev_gv (H110.ev rfl) h_))) ?_
  intro _ H112; clear H110
  refine gw_evG H112 rfl rfl rfl rfl (on_f _) rfl (by decide) (fun h_ => (op_gtr rfl (ev_gv (H112.ev rfl) h_) (ev_c _ _))) ?_
  intro _ H114; clear H112
  refine V2 H114 (want_yes H114 rfl rfl rfl rfl) (op_pick_or rfl (H114.ev rfl) (ev_c _ _) (fun hp_ => (ev_gv (H114.ev rfl) (not_t hp_)))) fun _ H116 => ?_
  refine V2 H116 (want_yes H116 rfl rfl rfl rfl) (op_move rfl (H116.ev rfl)) fun _ H118 => ?_
  clear H114 H116
  refine gw_evG H118 rfl rfl rfl rfl (on_f _) rfl (by decide) (fun h_ => (op_move rfl (H118.ev rfl))) ?_
  intro _ H120; clear H118
  refine gw_evG H120 rfl rfl rfl rfl (on_f _) rfl (by decide) (fun h_ => (op_lens Tryd.underlying9 rfl (ev_gv (H120.ev rfl) h_))) ?_
  intro _ H122; clear H120
  refine gw_evG H122 rfl rfl rfl rfl (on_f _) rfl (by decide) (fun h_ => (op_lss rfl (ev_gv (H122.ev rfl) h_) (ev_c _ _))) ?_
  intro _ H124; clear H122
  refine V2 H124 (want_yes H124 rfl rfl rfl rfl) (op_pick_or rfl (H124.ev rfl) (ev_c _ _) (fun hp_ => (ev_gv (H124.ev rfl) (not_t hp_)))) fun _ H126 => ?_
  refine V2 H126 (want_yes H126 rfl rfl rfl rfl) (op_move rfl (H126.ev rfl)) fun _ H128 => ?_
  clear H124 H126
  refine gw_evG H128 rfl rfl rfl rfl (on_f _) rfl (by decide) (fun h_ => (op_move rfl (H128.ev rfl))) ?_
  intro _ H130; clear H128
  refine gw_evG H130 rfl rfl rfl rfl (on_f _) rfl (by decide) (fun h_ => (op_lens Tryd.underlying9 rfl (ev_gv (H130.ev rfl) h_))) ?_
  intro _ H132; clear H130
  refine gw_evG H132 rfl rfl rfl rfl (on_f _) rfl (by decide) (fun h_ => (op_gtr rfl (ev_gv (H132.ev rfl) h_) (ev_c _ _))) ?_
  intro _ H134; clear H132
  refine V2 H134 (want_yes H134 rfl rfl rfl rfl) (op_pick_or rfl (H134.ev rfl) (ev_c _ _) (fun hp_ => (ev_gv (H134.ev rfl) (not_t hp_)))) fun _ H136 => ?_
  clear H134
  have H137 := H136.lit (b := true) (by have h_ := forge_no (by omega) hno; simp; omega)
  clear H136
  refine V H137 (op_pick_t rfl (H137.ev rfl) (H137.ev rfl)) fun _ H139 => ?_
  refine Va H139 fun _ H141 => ?_
  refine gE hK93 ?_
  refine wp_ret ?_
  clear H137 H139
  refine gw_thr ?_
  refine gw_ret1 H141 rfl rfl ?_
  exact ⟨rfl, O87.below⟩
 have H142 := H90.subst_ (d := 32) (b := false) rfl hb91
 clear H90
 (try simp only [Bool.and_eq_true, Bool.and_eq_false_iff, Bool.not_and, Bool.or_eq_true, Bool.or_eq_false_iff, Bool.not_or, Bool.not_not, Bool.not_eq_true', Bool.not_eq_false', Bool.not_eq_true, Bool.not_eq_false] at hb91)
 have hyes : rightS (⟨#[115]⟩ : ByteArray) (⟨#[98]⟩ : ByteArray) (forgeL na nb (1 + rm)) = true := by have hb_ := hb91; revert hb_; cases rightS (⟨#[115]⟩ : ByteArray) (⟨#[98]⟩ : ByteArray) (forgeL na nb (1 + rm)) <;> simp
 refine gS hK78 ?_
 refine gR fun K143 hK143 => ?_
 refine Vm H142 fun _ H145 => ?_
 clear H142
 have O160 : Own w _ [(Chunk.all [Bk g56 [.string (⟨#[115]⟩ : ByteArray), .string (⟨#[98]⟩ : ByteArray), .slice (some ⟨g48, 0, none⟩) ((forgeL na nb (1 + rm)).length) 1] 24, Bk g48 [.string (⟨#[103]⟩ : ByteArray), .slice (some ⟨g40, 0, none⟩) (([(⟨na, 1 + rm⟩ : S49), (⟨nb, 1⟩ : S49)]).length) (([(⟨na, 1 + rm⟩ : S49), (⟨nb, 1⟩ : S49)]).length)] 46, Bk g40 [.string na, J (1 + rm), .string nb, J 1] 49])] := Own.bundle (O87.sel [0, 1, 2] (by decide))
 refine Wk H145 Tryd.func18 rfl (ar_cons (H145.ev rfl) ar_nil) (parse_told w _ (Chunk.all [Bk g56 [.string (⟨#[115]⟩ : ByteArray), .string (⟨#[98]⟩ : ByteArray), .slice (some ⟨g48, 0, none⟩) ((forgeL na nb (1 + rm)).length) 1] 24, Bk g48 [.string (⟨#[103]⟩ : ByteArray), .slice (some ⟨g40, 0, none⟩) (([(⟨na, 1 + rm⟩ : S49), (⟨nb, 1⟩ : S49)]).length) (([(⟨na, 1 + rm⟩ : S49), (⟨nb, 1⟩ : S49)]).length)] 46, Bk g40 [.string na, J (1 + rm), .string nb, J 1] 49]) (textL (⟨#[115]⟩ : ByteArray) (⟨#[98]⟩ : ByteArray) (forgeL na nb (1 + rm))) (⟨#[115]⟩ : ByteArray) (⟨#[98]⟩ : ByteArray) (forgeL na nb (1 + rm)) 0 0 (told_yes (parse_text _ _ _ hyes)) (by have h_ := text_size (⟨#[115]⟩ : ByteArray) (⟨#[98]⟩ : ByteArray) (forgeL na nb (1 + rm)) (by omega); omega) hL O160) ?_
 rintro e154 w155 ⟨A146, c147, wz148, S149, rfl, hb156, hbz150, hFz151, hlz152⟩
 refine ⟨_, rfl, fun _ H158 => ?_⟩
 have O159 : Own w w155 [Bk g56 [.string (⟨#[115]⟩ : ByteArray), .string (⟨#[98]⟩ : ByteArray), .slice (some ⟨g48, 0, none⟩) ((forgeL na nb (1 + rm)).length) 1] 24, Bk g48 [.string (⟨#[103]⟩ : ByteArray), .slice (some ⟨g40, 0, none⟩) (([(⟨na, 1 + rm⟩ : S49), (⟨nb, 1⟩ : S49)]).length) (([(⟨na, 1 + rm⟩ : S49), (⟨nb, 1⟩ : S49)]).length)] 46, Bk g40 [.string na, J (1 + rm), .string nb, J 1] 49, Chunk.frz wz148 S149] := Own.unbundle (hb156.sel [1, 0] (by decide))
 clear O160
 clear H145 O87 hb156
 refine Vm H158 fun _ H163 => ?_
 refine Vx H163 fun _ H165 => ?_
 refine Vx H165 fun _ H167 => ?_
 refine Vx H167 fun _ H169 => ?_
 clear H158 H163 H165 H167
 refine gw_new H169 O159 (want_none rfl) rfl (by decide) (op_alloc gwzer24 rfl) ?_
 intro g170 _ w172 H173 O174; clear H169 O159
 have O175 : Own w w172 [Bk g170 [.string (⟨#[]⟩ : ByteArray), .string (⟨#[]⟩ : ByteArray), .slice none 0 0] 24, Bk g56 [.string (⟨#[115]⟩ : ByteArray), .string (⟨#[98]⟩ : ByteArray), .slice (some ⟨g48, 0, none⟩) ((forgeL na nb (1 + rm)).length) 1] 24, Bk g48 [.string (⟨#[103]⟩ : ByteArray), .slice (some ⟨g40, 0, none⟩) (([(⟨na, 1 + rm⟩ : S49), (⟨nb, 1⟩ : S49)]).length) (([(⟨na, 1 + rm⟩ : S49), (⟨nb, 1⟩ : S49)]).length)] 46, Bk g40 [.string na, J (1 + rm), .string nb, J 1] 49, Chunk.frz wz148 S149] := O174
 clear O174
 refine gw_setn 0 H173 O175 rfl (want_none rfl) rfl (op_storen gwsiz24 rfl (H173.ev rfl) (H173.ev rfl) (O175.get 0 rfl) rfl (by simp) (by simp [Value.oneCell'])) ?_
 intro _ w178 H177 O179; clear H173 O175
 refine Va H177 fun _ H181 => ?_
 refine Va H181 fun _ H183 => ?_
 refine gE hK143 ?_
 refine gw_seq fun K184 hK184 => ?_
 refine gR fun K185 hK185 => ?_
 refine Vm H183 fun _ H187 => ?_
 refine V H187 (op_nei rfl (H187.ev rfl) (ev_c _ _)) fun _ H189 => ?_
 clear H177 H181 H183 H187
 have H190 := H189.lit (b := false) (by decide)
 clear H189
 refine Vm H190 fun _ H192 => ?_
 refine V2 H192 (want_yes H192 rfl rfl rfl rfl) (op_field (gwfld24_2 _ _) rfl (H192.ev rfl)) fun _ H194 => ?_
 refine V2 H194 (want_yes H194 rfl rfl rfl rfl) (op_load1 gwagg22 rfl (H194.ev rfl) (blk_at (O179.get 0 rfl) rfl)) fun _ H196 => ?_
 refine V2 H196 (want_yes H196 rfl rfl rfl rfl) (op_len Tryd.underlying22 rfl (H196.ev rfl)) fun _ H198 => ?_
 refine V2 H198 (want_yes H198 rfl rfl rfl rfl) (op_nei rfl (H198.ev rfl) (ev_c _ _)) fun _ H200 => ?_
 clear H190 H192 H194 H196 H198
 have H201 := H200.lit (b := false) (by simp)
 clear H200
 refine V H201 (op_pick_f rfl (H201.ev rfl) (H201.ev rfl)) fun _ H203 => ?_
 refine Vm H203 fun _ H205 => ?_
 refine V2 H205 (want_yes H205 rfl rfl rfl rfl) (op_field (gwfld24_2 _ _) rfl (H205.ev rfl)) fun _ H207 => ?_
 refine V2 H207 (want_yes H207 rfl rfl rfl rfl) (op_load1 gwagg22 rfl (H207.ev rfl) (blk_at (O179.get 0 rfl) rfl)) fun _ H209 => ?_
 clear H201 H203 H205 H207
 obtain ⟨ad210, cs213, hA211, hl214, hK215, hc212, hin216⟩ := Kd.F_get hFz151 z46 0 (by omega) (by omega)
 obtain ⟨A217, c218, rfl, hl219, hC220⟩ := k46_openF hK215
 clear hl214
 refine V2 H209 (want_yes H209 rfl rfl rfl rfl) (op_index Tryd.underlying22 gwsiz46 rfl (H209.ev rfl) (ev_c _ _) hA211 (⟨by omega, by omega⟩)) fun _ H222 => ?_
 refine V2 H222 (want_yes H222 rfl rfl rfl rfl) (op_field (gwflda46_1 _) rfl (H222.ev rfl)) fun _ H224 => ?_
 refine V2 H224 (want_yes H224 rfl rfl rfl rfl) (op_load1 gwagg44 rfl (H224.ev rfl) (((frz_cells (i := 4) O179 rfl hbz150 (hin216 (by decide)) hc212) 1 _ rfl))) fun _ H226 => ?_
 refine V2 H226 (want_yes H226 rfl rfl rfl rfl) (op_len Tryd.underlying44 rfl (H226.ev rfl)) fun _ H228 => ?_
 refine V2 H228 (want_yes H228 rfl rfl rfl rfl) (op_nei rfl (H228.ev rfl) (ev_c _ _)) fun _ H230 => ?_
 clear H209 H222 H224 H226 H228
 have H231 := H230.lit (b := false) (by simp)
 clear H230
 refine V H231 (op_pick_f rfl (H231.ev rfl) (H231.ev rfl)) fun _ H233 => ?_
 refine gE hK185 ?_
 clear H231
 refine gw_cond H233 rfl (fun hb234 => ?_) (fun hb234 => ?_)
 ·
  cases hb234
 refine gS hK184 ?_
 refine gR fun K235 hK235 => ?_
 refine Vf H233 (gwfld24_2 _ _) fun _ H237 => ?_
 refine Vl H237 gwagg22 (O179.get 0 rfl) fun _ H239 => ?_
 clear H233 H237
 obtain ⟨ad240, cs243, hA241, hl244, hK245, hc242, hin246⟩ := Kd.F_get hFz151 z46 0 (by omega) (by omega)
 obtain ⟨A247, c248, rfl, hl249, hC250⟩ := k46_openF hK245
 clear hl244
 refine V H239 (op_index Tryd.underlying22 gwsiz46 rfl (H239.ev rfl) (ev_c _ _) hA241 (⟨by omega, by omega⟩)) fun _ H252 => ?_
 refine V H252 (op_field (gwflda46_1 _) rfl (H252.ev rfl)) fun _ H254 => ?_
 refine V H254 (op_load1 gwagg44 rfl (H254.ev rfl) (((frz_cells (i := 4) O179 rfl hbz150 (hin246 (by decide)) hc242) 1 _ rfl))) fun _ H256 => ?_
 refine Va H256 fun _ H258 => ?_
 refine gE hK235 ?_
 refine gR fun K259 hK259 => ?_
 refine Vm H258 fun _ H261 => ?_
 clear H239 H252 H254 H256 H258
 obtain ⟨ad262, cs265, hA263, hl266, hK267, hc264, hin268⟩ := Kd.F_get hC250 z49 0 (by omega) (by omega)
 obtain rfl := k49_openF hK267
 clear hl266
 refine V H261 (op_index Tryd.underlying44 gwsiz49 rfl (H261.ev rfl) (ev_c _ _) hA263 (⟨by omega, by omega⟩)) fun _ H270 => ?_
 refine V H270 (op_loadc gwagg49 gwsiz49 rfl (H270.ev rfl) rfl ((frz_cells (i := 4) O179 rfl hbz150 (hin268 (by decide)) hc264))) fun _ H272 => ?_
 refine Vm H272 fun _ H274 => ?_
 refine Vm H274 fun _ H276 => ?_
 refine V H276 (op_build (cells := #[.string na, J (1 + rm)]) rfl (pt_cons (H276.ev rfl) (pt_cons (H276.ev rfl) pt_nil)) (by kernel_rfl)) fun _ H278 => ?_
 refine V H278 (op_eqR rfl (H278.ev rfl) (H278.ev rfl)) fun _ H280 => ?_
 clear H261 H270 H272 H274 H276 H278
 have H281 := H280.lit (b := true) (by simp)
 clear H280
 refine Vm H281 fun _ H283 => ?_
 refine V2 H283 (want_yes H283 rfl rfl rfl rfl) (op_move rfl (H283.ev rfl)) fun _ H285 => ?_
 clear H281 H283
 obtain ⟨ad286, cs289, hA287, hl290, hK291, hc288, hin292⟩ := Kd.F_get hC250 z49 1 (by omega) (by omega)
 obtain rfl := k49_openF hK291
 clear hl290
 refine V2 H285 (want_yes H285 rfl rfl rfl rfl) (op_index Tryd.underlying44 gwsiz49 rfl (H285.ev rfl) (ev_c _ _) hA287 (⟨by omega, by omega⟩)) fun _ H294 => ?_
 refine V2 H294 (want_yes H294 rfl rfl rfl rfl) (op_loadc gwagg49 gwsiz49 rfl (H294.ev rfl) rfl ((frz_cells (i := 4) O179 rfl hbz150 (hin292 (by decide)) hc288))) fun _ H296 => ?_
 refine V2 H296 (want_yes H296 rfl rfl rfl rfl) (op_move rfl (H296.ev rfl)) fun _ H298 => ?_
 refine V2 H298 (want_yes H298 rfl rfl rfl rfl) (op_build (cells := #[.string nb, J 1]) rfl (pt_cons (H298.ev rfl) (pt_cons (ev_c _ _) pt_nil)) (by kernel_rfl)) fun _ H300 => ?_
 refine V2 H300 (want_yes H300 rfl rfl rfl rfl) (op_eqR rfl (H300.ev rfl) (H300.ev rfl)) fun _ H302 => ?_
 clear H285 H294 H296 H298 H300
 have H303 := H302.lit (b := true) (by simp)
 clear H302
 refine V H303 (op_pick_t rfl (H303.ev rfl) (H303.ev rfl)) fun _ H305 => ?_
 refine Va H305 fun _ H307 => ?_
 refine gE hK259 ?_
 refine wp_ret ?_
 clear H303 H305
 refine gw_ret1 H307 rfl rfl ?_
 exact ⟨rfl, O179.below⟩
end GForges_
export GForges_ (forges_walk)
open Classical in
noncomputable def colloquylaw20_SumForges.f (a0 : ByteArray) (a1 : ByteArray) (a2 : Int) : Option Bool := if True then some true else none
theorem colloquylaw20_SumForges.calls (a0 : ByteArray) (a1 : ByteArray) (a2 : Int) (r : Bool) (w : World)  (hL : LaidW w) (h : colloquylaw20_SumForges.f a0 a1 a2 = some r) :
    Calls Tryd.prog 7 #[(.string a0), (.string a1), (.int .i64 a2)] w fun e w' => e = .returned (.bool r) ∧ Below w.heap.size w w' := by
  unfold colloquylaw20_SumForges.f at h
  split at h
  · cases h; rename_i hh; exact forges_walk a0 a1 a2 w   hL
  · cases h
structure Opens {α : Type} (P : Program) (t : TypeId) (d : Kd α) (good : α → Prop) (wt : α → Nat) (sz : α → Prop) : Prop where
  run : ∀ {H : Type} (enc : TypeId × Value → H) (w : World) (spare : Nat → Bool) (held : Bool) (fuel : Nat) (cs : List Value) (x : DataW H × List MemPlace),
    DataW.trod enc P w 0 spare held fuel t cs = some x → ∃ y : α, d.K w y cs ∧ good y ∧ wt y ≤ Rows.uptoBulk x.1 ∧ ((∀ n ∈ x.1.weights P t, n ≤ reachBytes) → sz y)
structure OpensF {α : Type} (P : Program) (fs : List Field) (off : Nat) (d : Kd α) (good : α → Prop) (wt : α → Nat) (sz : α → Prop) : Prop where
  run : ∀ {H : Type} (enc : TypeId × Value → H) (w : World) (spare : Nat → Bool) (held : Bool) (fuel : Nat) (cs : List Value) (xs : List (DataW H × List MemPlace)),
    (fs.mapM fun f => DataW.trod enc P w 0 spare held fuel f.type ((cs.drop f.offset).take (P.cellsOf f.type))) = some xs →
      ∃ y : α, d.K w y ((cs.drop off).take d.sz) ∧ good y ∧ wt y ≤ Rows.uptoBulkAll (xs.map (·.1)) ∧ ((∀ n ∈ DataW.weightsEach P (fs.map (·.type)) (xs.map (·.1)), n ≤ reachBytes) → sz y)
def colloquylaw20_SumForges.PureU : Prop := ∀ (x0 : ByteArray) (x1 : ByteArray) (x2 : Int), (x0).size ≤ maxLen → (x1).size ≤ maxLen → (Lit.int .i64 (x2)).wf = true → x0.size ≤ 140737488351232 → x1.size ≤ 140737488351232 → ∃ _ : Nat, colloquylaw20_SumForges.f (x0) (x1) (x2) = some true
end Go.Proofs.YtljmbgilcngfgaaDoor.PA
section
namespace Go.Proofs.YtljmbgilcngfgaaDoor.Pure
open Go.RowKit Go.Proofs.YtljmbgilcngfgaaDoor.PA
set_option linter.unusedVariables false in
theorem SumForges : colloquylaw20_SumForges.PureU := fun x0 x1 x2 _ _ _ _ _ => ⟨0, if_pos trivial⟩
end Go.Proofs.YtljmbgilcngfgaaDoor.Pure
end
section
namespace Go.Proofs.YtljmbgilcngfgaaDoor.sumForges
open Go.ChangeShapes Go.WideShapes Go.ChangeAt Go.RowKit
open Go.ChangeMaps (open_string shut_string)
open Go.RowKit Go.Proofs.YtljmbgilcngfgaaDoorW.PrintWords Go.Proofs.YtljmbgilcngfgaaDoorW.PrintLast Go.Proofs.YtljmbgilcngfgaaDoorW.PrintMore Go.Proofs.YtljmbgilcngfgaaDoor.PA
set_option linter.unusedVariables false
set_option linter.unusedSimpArgs false
theorem own : ownKnob Tryd.prog.godebug = none := by kernel_rfl
theorem laidOut : laidOutB Tryd.prog = true := by kernel_rfl
set_option maxRecDepth 100000 in
theorem contract (H : Type) (enc : TypeId × Value → H) (W : World) (base : Nat) (args : Array Value) (ds gs : List (DataW H)) (before : List MemPlace)
    (hval0 : ∀ (j : Nat) t v, Tryd.f7.params[j]? = some t → args[j]? = some v → Value.okWide Tryd.prog W .any base t v)
    (hW : DataW.Whole enc Tryd.prog Tryd.f7.params.toList Rows.sumForgesSpec.vars false W args.toList ds gs before)
    (hsz0 : (DataW.weightsEach Tryd.prog (Tryd.f7.params.toList ++ Rows.sumForgesSpec.plain.varTypes Tryd.prog) (ds ++ gs)).all (· ≤ reachBytes) = true) (hLd : PA.LaidW W) :
    Calls Tryd.prog 7 args W fun e W' => ∃ v, e = .returned v ∧ Rows.sumForgesSpec.post enc Tryd.prog Tryd.f7 false true false false W args v W' := by
  have hsz : (DataW.weightsEach Tryd.prog (Tryd.f7.params.toList ++ Rows.sumForgesSpec.plain.varTypes Tryd.prog) (ds ++ gs)).all (· ≤ reachBytes) = true := hsz0
  have hval : ∀ (j : Nat) t v, Tryd.f7.params[j]? = some t → args[j]? = some v → Value.okWide Tryd.prog W .any base t v := hval0
  have hW' := hW
  obtain ⟨p, q, hA0, hV, rfl, hfz, hnd⟩ := hW
  have hA : DataW.TrodAll enc Tryd.prog W 0 (fun _ => true) true Tryd.f7.params.toList args.toList ds p := hA0
  rw [Tryd.params7] at hA hval hsz
  obtain ⟨v0, vs0, d0, ds0, p0, q0, hargs, rfl, rfl, h0, r0⟩ := trodAll_cons hA
  obtain ⟨v1, vs1, d1, ds1, p1, q1, rfl, rfl, rfl, h1, r1⟩ := trodAll_cons r0
  obtain ⟨v2, vs2, d2, ds2, p2, q2, rfl, rfl, rfl, h2, r2⟩ := trodAll_cons r1
  obtain ⟨rfl, rfl, rfl⟩ := trodAll_nil r2
  obtain rfl : args = #[v0, v1, v2] := by cases args; simp_all
  obtain ⟨rfl, rfl⟩ := trodVars_none hV
  obtain ⟨x0, rfl, rfl, rfl, g0⟩ := open_string Tryd.underlying9 (hval 0 9 v0 rfl rfl) h0
  have z0 : x0.size ≤ 140737488351232 := by
    have z := sized_string hsz (j := 0) (t := 9) rfl rfl
    rw [Array.length_toList] at z
    exact z
  obtain ⟨x1, rfl, rfl, rfl, g1⟩ := open_string Tryd.underlying9 (hval 1 9 v1 rfl rfl) h1
  have z1 : x1.size ≤ 140737488351232 := by
    have z := sized_string hsz (j := 1) (t := 9) rfl rfl
    rw [Array.length_toList] at z
    exact z
  obtain ⟨x2, rfl, rfl, rfl, g2⟩ := open_int Tryd.underlying3 (hval 2 3 v2 rfl rfl) h2
  obtain ⟨k, h⟩ := Pure.SumForges x0 x1 x2 g0 g1 g2 z0 z1
  refine (PA.colloquylaw20_SumForges.calls (a0 := x0) (a1 := x1) (a2 := x2) (r := true) (w := W) (hL := hLd) (h := h)).mono fun e W' ⟨he, hb⟩ => ?_
  have bel : Below W.heap.size W W' := by first | exact hb | exact Drawn0.below hb
  subst he
  exact ⟨_, rfl, _, _, _, [], _, [], hW', trodAll_mk1 (shut_bool Tryd.underlying4 _), (trodAll_cons_mk (shut_string Tryd.underlying9 g0) (trodAll_cons_mk (shut_string Tryd.underlying9 g1) (trodAll_cons_mk (shut_int Tryd.underlying3 g2) trodAll_mk0))), rfl, bel.frame _, fun h => by cases h⟩
set_option maxRecDepth 100000 in
theorem lifted (os : Os) (started : os.Started) (H : Type) (enc : TypeId × Value → H) :
    ReturnsInHanded {} Tryd.checked os 7 .any (fun w args => (Rows.sumForgesSpec.pre enc Tryd.prog Tryd.f7 Rows.sumForgesRow.domain false w args ∧ laidMetH Tryd.prog Rows.sumForgesRow.laid w) ∧ sizedMet enc Tryd.prog Tryd.f7 (OpenSpec.ofChange Rows.sumForgesSpec) false w args)
      (Rows.sumForgesSpec.post enc Tryd.prog Tryd.f7 false true false false) := by
  refine PA.handed_and_shaped (C := Tryd.checked) (X := fun w _ => laidMetH Tryd.prog Rows.sumForgesRow.laid w) (fun _ _ _ hh h => h.of_heap hh) own started (by kernel_rfl) Tryd.func7
    (ChangeSpec.witness_shaped (enc := enc) (C := Tryd.checked) (os := os) (X := fun w _ => laidMetH Tryd.prog Rows.sumForgesRow.laid w) false (World.laidAll Tryd.prog os Rows.sumForgesRow.laid) #[.string ByteArray.empty, .string ByteArray.empty, .int .i64 0] 8 (World.laidAll_os _ _ _)
      (World.shaped_of_ZipB (by kernel_rfl) (by kernel_rfl)) (by kernel_rfl) (by kernel_rfl) (by kernel_rfl)
      (by rw [MakeChecks.laidMetH_plain _ _ _ (by kernel_rfl)]; exact laidMet_laidAll _ (by kernel_rfl) (by kernel_rfl))) ?_
  intro W base args ds gs before hval hW hsz hx hsh
  exact contract H enc W base args ds gs before hval hW hsz (PA.laid_W hsh (fun w => MakeChecks.laidMetH_plain _ _ w (by kernel_rfl)) (by have e_ : (Lib.tabData .u64 Lib.pow10Tab : DataW Unit) = Rows.laid_internal_strconv_uint64pow10 := (by kernel_rfl); rw [e_]; simp [Rows.sumForgesRow]) hx)
theorem over : Rows.sumForgesRow.holds Tryd.pinned (OpenSpec.ofChange Rows.sumForgesSpec) :=
  OpenClaim.holds_of_wide 7 Tryd.f7 rfl rfl rfl rfl rfl rfl rfl ⟨rfl, rfl, rfl, rfl, rfl⟩ rfl rfl rfl rfl rfl (by kernel_rfl) Tryd.func7 (by kernel_rfl)
    (of_decide_eq_true (by kernel_rfl)) (by unfold Func.isWrapper; first | (rw [if_pos (by decide +kernel)]; kernel_rfl) | (rw [if_neg (by decide +kernel)]; exact ⟨rfl, rfl⟩))
    (fun os started H enc _ => lifted os started H enc)
theorem proved : Rows.SumForgesSaid := over
theorem card_holds : Rows.SumForgesCardSaid :=
  Claim7.holds_tied_plain_at .later [] [.data, .data, .data, .data, .pinned] true (true, "9ec31119e96e43430481a0a0f6c2bb068c6456d675388dc92fd42b455ffcde30") false
    proved (fun _ h => by cases h) (by kernel_rfl) (fun _ h => by cases h) sumForges_row_tie rfl ⟨rfl, rfl⟩ (by kernel_rfl) rfl
    (fun f fn hf hfn => by
      obtain rfl : f = 7 := Option.some.inj ((show Tryd.prog.funcNamed "colloquy/colloquylaw20.SumForges" = some 7 by kernel_rfl).symm.trans hf) |>.symm
      obtain rfl : fn = Tryd.f7 := (Option.some.inj (Tryd.func7.symm.trans hfn)).symm
      exact ⟨by kernel_rfl, fun j t ht => by
        have hall : (Tryd.f7.params.toList.all fun u => !Tryd.prog.wantsStandIn u) = true := by kernel_rfl
        have hm : t ∈ Tryd.f7.params.toList := Array.mem_toList_iff.2 (Array.mem_of_getElem? ht)
        exact (show Tryd.prog.wantsStandIn t = false by simpa using List.all_eq_true.1 hall t hm)⟩)
    (by kernel_rfl)
end Go.Proofs.YtljmbgilcngfgaaDoor.sumForges
namespace Go.Proofs.YtljmbgilcngfgaaDoor
theorem sumForgesCard_holds : Rows.SumForgesCardSaid := sumForges.card_holds
end Go.Proofs.YtljmbgilcngfgaaDoor
end
