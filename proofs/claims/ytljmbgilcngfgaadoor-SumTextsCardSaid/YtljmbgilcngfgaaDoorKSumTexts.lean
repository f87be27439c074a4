/- The row of the law SumTexts: for every input the call returns true and leaves its arguments as they were. Printed by a program of this session. -/
/- What this claim uses of this session's own texts, put together by a program: PAx2 PAx69 PAx1 PAx68 HSumG GText GAlive GTexts HOpen HKinds Ty49 Ty46 Ty24 StmtSumTexts PureSumTexts LawSumTexts. -/
import Derived.Test.YtljmbgilcngfgaaDoorKSumTexts3
import Derived.Test.YtljmbgilcngfgaaDoorProg
import Derived.Test.YtljmbgilcngfgaaDoorRows
import Derived.Test.YtljmbgilcngfgaaDoorCards
import Derived.Test.YtljmbgilcngfgaaDoorTie
namespace Go.Proofs.YtljmbgilcngfgaaDoor.PA
open Go.RowKit Go.Proofs.YtljmbgilcngfgaaDoorW.PrintWords Go.Proofs.YtljmbgilcngfgaaDoorW.PrintLast Go.Proofs.YtljmbgilcngfgaaDoorW.PrintMore
set_option linter.unusedVariables false
set_option linter.unusedSimpArgs false
set_option maxRecDepth 100000
set_option maxHeartbeats 8000000
section
attribute [local go_sem] max2_int min2_int max_two min_two max_three min_three max_four min_four   -- for this text's walks alone
def colloquylaw20_of.l0 : Nat → List (S46) → Int → Int → ByteArray → ByteArray → List (S53) → Option (ByteArray × ByteArray × (List (S53)))
  | 0, _, _, _, _, _, _ => none
  | k + 1, x12, x13, x14, x104000, x104001, x104002 => if x14 < x13 then (if 0 ≤ x14 then (if x14 < (x12.length : Int) then (if x104002.length < 3518437208883 then (colloquylaw20_of.l0 k x12 x13 (wrap64 (x14 + 1)) x104000 x104001 (x104002 ++ [(⟨(rd_T46 x12 x14).f0, (rd_T46 x12 x14).f1⟩ : S53)])) else (none)) else (none)) else (none)) else (some (x104000, x104001, x104002))
def colloquylaw20_of.f (k : Nat) (a0_0 : ByteArray) (a0_1 : ByteArray) (l0_2 : List (S46)) : Option (ByteArray × ByteArray × (List (S53))) := colloquylaw20_of.l0 k l0_2 (l0_2.length : Int) 0 a0_0 a0_1 ([] : List (S53))
theorem colloquylaw20_of.mono_l : ∀ k, (∀ y0 y1 y2 y3 y4 y5, LeO (colloquylaw20_of.l0 k y0 y1 y2 y3 y4 y5) (colloquylaw20_of.l0 (k + 1) y0 y1 y2 y3 y4 y5))
  | 0 => fun _ _ _ _ _ _ r h => by simp [colloquylaw20_of.l0] at h
  | k + 1 => by
    have ih0 := colloquylaw20_of.mono_l k
    · intro y0 y1 y2 y3 y4 y5
      unfold colloquylaw20_of.l0
      repeat' first
      | (with_reducible exact ih0 _ _ _ _ _ _)
      | (with_reducible exact LeO.refl _)
      | (with_reducible exact LeO.none _)
      | (with_reducible refine LeO.ite ?_ ?_)
      | (with_reducible refine LeO.bind ?_ (fun _ => ?_))
      | exact ih0 _ _ _ _ _ _
      | exact LeO.none _
      | refine LeO.ite ?_ ?_
      | refine LeO.bind ?_ (fun _ => ?_)
theorem colloquylaw20_of.mono : ∀ a0 a1 a2 k, LeO (colloquylaw20_of.f k a0 a1 a2) (colloquylaw20_of.f (k + 1) a0 a1 a2) := by
  intro a0 a1 a2 k
  have ih0 := colloquylaw20_of.mono_l k
  unfold colloquylaw20_of.f
  repeat' first
      | (with_reducible exact ih0 _ _ _ _ _ _)
      | (with_reducible exact LeO.refl _)
      | (with_reducible exact LeO.none _)
      | (with_reducible refine LeO.ite ?_ ?_)
      | (with_reducible refine LeO.bind ?_ (fun _ => ?_))
      | exact ih0 _ _ _ _ _ _
      | exact LeO.none _
      | refine LeO.ite ?_ ?_
      | refine LeO.bind ?_ (fun _ => ?_)
theorem colloquylaw20_of.calls (k : Nat) (a0_0 : ByteArray) (a0_1 : ByteArray) (P0_2_ : Nat → Prop) (A0_2 : Option Addr) (c0_2 : Nat) (l0_2 : List (S46)) (r1 : ByteArray) (r2 : ByteArray) (r3 : List (S53)) (w : World) (hs0_2 : Kd.V k46 46 w w.heap.size (fun k_ => P0_2_ k_) (.slice A0_2 l0_2.length c0_2) l0_2) (h : colloquylaw20_of.f k a0_0 a0_1 l0_2 = some (r1, r2, r3)) :
    Calls Tryd.prog 11 #[.agg #[.string a0_0, .string a0_1, .slice A0_2 l0_2.length c0_2]] w fun e w' => ∃ v2_ : Value, e = .returned (.agg #[.string r1, .string r2, v2_]) ∧ Kd.N k53 53 w' w.heap.size (fun k_ => (P0_2_ k_ ∨ w.heap.size ≤ k_)) v2_ r3 ∧ Below w.heap.size w w' := by
  have hu24 := Tryd.underlying24
  have hu29 := Tryd.underlying29
  have hu46 := Tryd.underlying46
  have hu53 := Tryd.underlying53
  have HO0_2 := Aside0.mk (show Kd.V k46 46 w w.heap.size (fun k_ => (P0_2_ k_ ∨ w.heap.size ≤ k_)) (.slice A0_2 l0_2.length c0_2) l0_2 from Kd.V_mono hs0_2 (fun k_ hk => .inl hk))
  have HB := Aside0.mk (Below.refl w.heap.size w)
  have H : (colloquylaw20_of.l0 k l0_2 (l0_2.length : Int) 0 a0_0 a0_1 ([] : List (S53))) = some (r1, r2, r3) := h
  clear h
  have H' := Aside0.mk H
  clear H
  go_enter Tryd.func11, Tryd.ntmps11
  go_wp2_with (first | ((with_reducible refine gate_dst (N := 1) rfl ?_); refine box_event ?hg (N := 1) ?hd (cs := #[.string a0_0, .string a0_1, .slice A0_2 l0_2.length c0_2]) (t := 24) ?hr ?_; (case hd => rfl); (case hg => rfl); (case hr => first | (go_simp; done) | (go_simp; rfl)); intro gb101 hg w2 hbox hb; have n0_ := Aside0.mk (Kd.V_below (Kd.V_elderB (by (with_reducible repeat (first | apply Kd.V_alloc | apply Kd.V_drewN | apply Kd.V_drew)); exact HO0_2.out) gb101 (Nat.le_of_eq hg.symm)) hb); have n1_ := Aside0.mk (below_step (by repeat (first | (with_reducible first | exact HB.out | apply below_alloc | apply pw_below_drewN | apply below_drew1) | exact HB.out)) hb); have n2_ := Aside0.mk (hbox); have n3_ := Aside0.mk ((by rw [hg]; exact (below_size (by repeat (first | (with_reducible first | exact HB.out | apply below_alloc | apply pw_below_drewN | apply below_drew1) | exact HB.out))) : w.heap.size ≤ gb101)); have n4_ := Aside0.mk ((by rw [hg]; exact (below_size (by repeat (first | (with_reducible first | exact HB.out | apply below_alloc | apply pw_below_drewN | apply below_drew1) | exact HB.out))) : w.heap.size ≤ gb101)); clear HO0_2; clear HB; have HO0_2 := n0_; have HB := n1_; have BK101 := n2_; have GW101 := n3_; have GE101 := n4_; clear n0_ n1_ n2_ n3_ n4_; clear hb hbox hg) | ((with_reducible refine gate_dst (N := 2) rfl ?_); refine box_event ?hg (N := 2) ?hd (cs := #[.string (⟨#[]⟩ : ByteArray), .string (⟨#[]⟩ : ByteArray), .slice none 0 0]) (t := 29) ?hr ?_; (case hd => rfl); (case hg => rfl); (case hr => first | (go_simp; done) | (go_simp; rfl)); intro gb102 hg w3 hbox hb; have n0_ := Aside0.mk (Kd.V_below (Kd.V_elderB (by (with_reducible repeat (first | apply Kd.V_alloc | apply Kd.V_drewN | apply Kd.V_drew)); exact HO0_2.out) gb102 (Nat.le_of_eq hg.symm)) hb); have n1_ := Aside0.mk (blk_below (g := gb101) (o := .cells #[.string a0_0, .string a0_1, .slice A0_2 l0_2.length c0_2] 24 (0, 0)) (by (with_reducible repeat (first | refine blk_drewN ?_ _ | refine blk_drew ?_ | refine blk_alloc ?_ _)); exact BK101.out) hb); have n2_ := Aside0.mk (below_step (by repeat (first | (with_reducible first | exact HB.out | apply below_alloc | apply pw_below_drewN | apply below_drew1 | refine below_set ?_ GE101.out) | exact HB.out)) hb); have n3_ := Aside0.mk (hbox); have n4_ := Aside0.mk ((by rw [hg]; exact (below_size (by repeat (first | (with_reducible first | exact HB.out | apply below_alloc | apply pw_below_drewN | apply below_drew1 | refine below_set ?_ GE101.out) | exact HB.out))) : w.heap.size ≤ gb102)); have n5_ := Aside0.mk ((by rw [hg]; exact (below_size (by repeat (first | (with_reducible first | exact HB.out | apply below_alloc | apply pw_below_drewN | apply below_drew1 | refine below_set ?_ GE101.out) | exact HB.out))) : w.heap.size ≤ gb102)); have n6_ := Aside0.mk ((by rw [hg]; exact Nat.ne_of_lt (blk_lt (g := gb101) (o := .cells #[.string a0_0, .string a0_1, .slice A0_2 l0_2.length c0_2] 24 (0, 0)) (by (with_reducible repeat (first | refine blk_drewN ?_ _ | refine blk_drew ?_ | refine blk_alloc ?_ _)); exact BK101.out)) : gb101 ≠ gb102)); have n7_ := Aside0.mk ((by rw [hg]; exact Nat.ne_of_gt (blk_lt (g := gb101) (o := .cells #[.string a0_0, .string a0_1, .slice A0_2 l0_2.length c0_2] 24 (0, 0)) (by (with_reducible repeat (first | refine blk_drewN ?_ _ | refine blk_drew ?_ | refine blk_alloc ?_ _)); exact BK101.out)) : gb102 ≠ gb101)); clear HO0_2; clear BK101; clear HB; have HO0_2 := n0_; have BK101 := n1_; have HB := n2_; have BK102 := n3_; have GW102 := n4_; have GE102 := n5_; have NB101_102 := n6_; have NB102_101 := n7_; clear n0_ n1_ n2_ n3_ n4_ n5_ n6_ n7_; clear hb hbox hg; have hnb4 := NB101_102.out; have hnc4 := NB102_101.out; have hcz5_0 : w3.cell? ⟨gb101, 0, none⟩ = some (.string a0_0) := (blk_cell BK101.out 0).trans rfl; have hcz5_1 : w3.cell? ⟨gb101, 1, none⟩ = some (.string a0_1) := (blk_cell BK101.out 1).trans rfl; have hcz5_2 : w3.cell? ⟨gb101, 2, none⟩ = some (.slice A0_2 l0_2.length c0_2) := (blk_cell BK101.out 2).trans rfl; have hfz5_0 := blk_frozen BK101.out 0; have hfz5_1 := blk_frozen BK101.out 1; have hfz5_2 := blk_frozen BK101.out 2) | ((with_reducible refine gate_dst (N := 3) rfl ?_); refine box_event ?hg (N := 3) ?hd (cs := #[.string (⟨#[]⟩ : ByteArray), .string (⟨#[]⟩ : ByteArray), .slice none 0 0]) (t := 29) ?hr ?_; (case hd => rfl); (case hg => rfl); (case hr => first | (go_simp; done) | (go_simp; rfl)); intro gb103 hg w6 hbox hb; have n0_ := Aside0.mk (Kd.V_below (Kd.V_elderB (by (with_reducible repeat (first | apply Kd.V_alloc | apply Kd.V_drewN | apply Kd.V_drew)); exact HO0_2.out) gb103 (Nat.le_of_eq hg.symm)) hb); have n1_ := Aside0.mk (blk_below (g := gb101) (o := .cells #[.string a0_0, .string a0_1, .slice A0_2 l0_2.length c0_2] 24 (0, 0)) (by (with_reducible repeat (first | refine blk_drewN ?_ _ | refine blk_drew ?_ | refine blk_alloc ?_ _)); exact BK101.out) hb); have n2_ := Aside0.mk (blk_below (g := gb102) (o := .cells #[.string (⟨#[]⟩ : ByteArray), .string (⟨#[]⟩ : ByteArray), .slice none 0 0] 29 (0, 0)) (by (with_reducible repeat (first | refine blk_drewN ?_ _ | refine blk_drew ?_ | refine blk_alloc ?_ _)); exact BK102.out) hb); have n3_ := Aside0.mk (below_step (by repeat (first | (with_reducible first | exact HB.out | apply below_alloc | apply pw_below_drewN | apply below_drew1 | refine below_set ?_ GE101.out | refine below_set ?_ GE102.out) | exact HB.out)) hb); have n4_ := Aside0.mk (hbox); have n5_ := Aside0.mk ((by rw [hg]; exact (below_size (by repeat (first | (with_reducible first | exact HB.out | apply below_alloc | apply pw_below_drewN | apply below_drew1 | refine below_set ?_ GE101.out | refine below_set ?_ GE102.out) | exact HB.out))) : w.heap.size ≤ gb103)); have n6_ := Aside0.mk ((by rw [hg]; exact (below_size (by repeat (first | (with_reducible first | exact HB.out | apply below_alloc | apply pw_below_drewN | apply below_drew1 | refine below_set ?_ GE101.out | refine below_set ?_ GE102.out) | exact HB.out))) : w.heap.size ≤ gb103)); have n7_ := Aside0.mk ((by rw [hg]; exact Nat.ne_of_lt (blk_lt (g := gb101) (o := .cells #[.string a0_0, .string a0_1, .slice A0_2 l0_2.length c0_2] 24 (0, 0)) (by (with_reducible repeat (first | refine blk_drewN ?_ _ | refine blk_drew ?_ | refine blk_alloc ?_ _)); exact BK101.out)) : gb101 ≠ gb103)); have n8_ := Aside0.mk ((by rw [hg]; exact Nat.ne_of_gt (blk_lt (g := gb101) (o := .cells #[.string a0_0, .string a0_1, .slice A0_2 l0_2.length c0_2] 24 (0, 0)) (by (with_reducible repeat (first | refine blk_drewN ?_ _ | refine blk_drew ?_ | refine blk_alloc ?_ _)); exact BK101.out)) : gb103 ≠ gb101)); have n9_ := Aside0.mk ((by rw [hg]; exact Nat.ne_of_lt (blk_lt (g := gb102) (o := .cells #[.string (⟨#[]⟩ : ByteArray), .string (⟨#[]⟩ : ByteArray), .slice none 0 0] 29 (0, 0)) (by (with_reducible repeat (first | refine blk_drewN ?_ _ | refine blk_drew ?_ | refine blk_alloc ?_ _)); exact BK102.out)) : gb102 ≠ gb103)); have n10_ := Aside0.mk ((by rw [hg]; exact Nat.ne_of_gt (blk_lt (g := gb102) (o := .cells #[.string (⟨#[]⟩ : ByteArray), .string (⟨#[]⟩ : ByteArray), .slice none 0 0] 29 (0, 0)) (by (with_reducible repeat (first | refine blk_drewN ?_ _ | refine blk_drew ?_ | refine blk_alloc ?_ _)); exact BK102.out)) : gb103 ≠ gb102)); clear HO0_2; clear BK101; clear BK102; clear HB; have HO0_2 := n0_; have BK101 := n1_; have BK102 := n2_; have HB := n3_; have BK103 := n4_; have GW103 := n5_; have GE103 := n6_; have NB101_103 := n7_; have NB103_101 := n8_; have NB102_103 := n9_; have NB103_102 := n10_; clear n0_ n1_ n2_ n3_ n4_ n5_ n6_ n7_ n8_ n9_ n10_; clear hb hbox hg; have hnb7 := NB103_101.out; have hnc7 := NB101_103.out; have hnb8 := NB103_102.out; have hnc8 := NB102_103.out; have hcz9_0 : w6.cell? ⟨gb103, 0, none⟩ = some (.string (⟨#[]⟩ : ByteArray)) := (blk_cell BK103.out 0).trans rfl; have hcz9_1 : w6.cell? ⟨gb103, 1, none⟩ = some (.string (⟨#[]⟩ : ByteArray)) := (blk_cell BK103.out 1).trans rfl; have hcz9_2 : w6.cell? ⟨gb103, 2, none⟩ = some (.slice none 0 0) := (blk_cell BK103.out 2).trans rfl; have hfz9_0 := blk_frozen BK103.out 0; have hfz9_1 := blk_frozen BK103.out 1; have hfz9_2 := blk_frozen BK103.out 2; have hcz10_0 : w6.cell? ⟨gb101, 0, none⟩ = some (.string a0_0) := (blk_cell BK101.out 0).trans rfl; have hcz10_1 : w6.cell? ⟨gb101, 1, none⟩ = some (.string a0_1) := (blk_cell BK101.out 1).trans rfl; have hcz10_2 : w6.cell? ⟨gb101, 2, none⟩ = some (.slice A0_2 l0_2.length c0_2) := (blk_cell BK101.out 2).trans rfl; have hfz10_0 := blk_frozen BK101.out 0; have hfz10_1 := blk_frozen BK101.out 1; have hfz10_2 := blk_frozen BK101.out 2))
  go_loopg [14] k (fun kq v14 w' => ∃ (x14_1 : Int) (x104002_1 : List (S53)) (u104002 : Value), v14 = .int .i64 x14_1 ∧ Aside0 (colloquylaw20_of.l0 kq l0_2 (l0_2.length : Int) x14_1 a0_0 a0_1 x104002_1 = some (r1, r2, r3)) ∧ Aside0 (kq ≤ k) ∧ Aside0 (Kd.V k46 46 w' w.heap.size (fun k_ => (P0_2_ k_ ∨ w.heap.size ≤ k_) ∧ some k_ ≠ (u104002 : Value).ownBlock ∧ k_ ≠ gb101 ∧ k_ ≠ gb102 ∧ k_ ≠ gb103) (.slice A0_2 l0_2.length c0_2) l0_2) ∧ Aside0 (Kd.V k46 46 w' w.heap.size (fun k_ => (P0_2_ k_ ∨ w.heap.size ≤ k_) ∧ some k_ ≠ (u104002 : Value).ownBlock ∧ k_ ≠ gb101 ∧ k_ ≠ gb102 ∧ k_ ≠ gb103) (.slice A0_2 l0_2.length c0_2) l0_2) ∧ Aside0 (Kd.N k53 53 w' w.heap.size (fun k_ => (P0_2_ k_ ∨ w.heap.size ≤ k_) ∧ k_ ≠ gb101 ∧ k_ ≠ gb102 ∧ k_ ≠ gb103) u104002 x104002_1) ∧ Aside0 (w'.heap[gb101]? = some (.cells #[.string a0_0, .string a0_1, (.slice A0_2 l0_2.length c0_2)] 24 (0, 0))) ∧ Aside0 (w'.heap[gb102]? = some (.cells #[.string (⟨#[]⟩ : ByteArray), .string (⟨#[]⟩ : ByteArray), (.slice none 0 0)] 29 (0, 0))) ∧ Aside0 (w'.heap[gb103]? = some (.cells #[.string a0_0, .string a0_1, u104002] 29 (0, 0))) ∧ Aside0 (Below w.heap.size w w'))
  case atStart => exact ⟨(0), (([] : List (S53))), (.slice none 0 0), (by first | rfl | (simp; done) | (simp [*]; done)), H', ⟨Nat.le_refl _⟩, ⟨by (with_reducible repeat (first | apply Kd.V_alloc | apply Kd.V_drewN | apply Kd.V_drew)); exact Kd.V_mono (Kd.V_far (p := ⟨gb103, 2, none⟩) (Kd.V_far (p := ⟨gb103, 1, none⟩) (Kd.V_far (p := ⟨gb103, 0, none⟩) (Kd.V_mono HO0_2.out (fun k_ hk => (⟨hk, hk.2⟩ : _ ∧ k_ ≠ gb103))) (fun _ hk => hk.2) (.string a0_0)) (fun _ hk => hk.2) (.string a0_1)) (fun _ hk => hk.2) (.slice none 0 0)) (fun _ hk => ⟨hk.1.1.1.1, ⟨(by simp [Value.ownBlock]), ⟨hk.1.1.1.2, ⟨hk.1.1.2, hk.1.2⟩⟩⟩⟩)⟩, ⟨by (with_reducible repeat (first | apply Kd.V_alloc | apply Kd.V_drewN | apply Kd.V_drew)); exact Kd.V_mono (Kd.V_far (p := ⟨gb103, 2, none⟩) (Kd.V_far (p := ⟨gb103, 1, none⟩) (Kd.V_far (p := ⟨gb103, 0, none⟩) (Kd.V_mono HO0_2.out (fun k_ hk => (⟨hk, hk.2⟩ : _ ∧ k_ ≠ gb103))) (fun _ hk => hk.2) (.string a0_0)) (fun _ hk => hk.2) (.string a0_1)) (fun _ hk => hk.2) (.slice none 0 0)) (fun _ hk => ⟨hk.1.1.1.1, ⟨(by simp [Value.ownBlock]), ⟨hk.1.1.1.2, ⟨hk.1.1.2, hk.1.2⟩⟩⟩⟩)⟩, ⟨by first | exact Kd.S_nil _ _ _ _ _ | exact Kd.N_nil _ _ _ _ _ | exact Kd.V_nil _ _ _ _ _ | exact Kd.Q_nil _ _ _ _ _ | exact Kd.R_nil _ _ _ _ _⟩, ⟨by (with_reducible repeat (first | refine blk_drewN ?_ _ | refine blk_drew ?_ | refine blk_alloc ?_ _)); refine blk_far ?_ NB101_103.out _; (with_reducible repeat (first | refine blk_drewN ?_ _ | refine blk_drew ?_ | refine blk_alloc ?_ _)); refine blk_far ?_ NB101_103.out _; (with_reducible repeat (first | refine blk_drewN ?_ _ | refine blk_drew ?_ | refine blk_alloc ?_ _)); refine blk_far ?_ NB101_103.out _; (with_reducible repeat (first | refine blk_drewN ?_ _ | refine blk_drew ?_ | refine blk_alloc ?_ _)); exact BK101.out⟩, ⟨by (with_reducible repeat (first | refine blk_drewN ?_ _ | refine blk_drew ?_ | refine blk_alloc ?_ _)); refine blk_far ?_ NB102_103.out _; (with_reducible repeat (first | refine blk_drewN ?_ _ | refine blk_drew ?_ | refine blk_alloc ?_ _)); refine blk_far ?_ NB102_103.out _; (with_reducible repeat (first | refine blk_drewN ?_ _ | refine blk_drew ?_ | refine blk_alloc ?_ _)); refine blk_far ?_ NB102_103.out _; (with_reducible repeat (first | refine blk_drewN ?_ _ | refine blk_drew ?_ | refine blk_alloc ?_ _)); exact BK102.out⟩, ⟨by (with_reducible repeat (first | refine blk_drewN ?_ _ | refine blk_drew ?_ | refine blk_alloc ?_ _)); refine blk_put (cs := #[.string a0_0, .string a0_1, .slice none 0 0]) ?_ 2 _ rfl; (with_reducible repeat (first | refine blk_drewN ?_ _ | refine blk_drew ?_ | refine blk_alloc ?_ _)); refine blk_put (cs := #[.string a0_0, .string (⟨#[]⟩ : ByteArray), .slice none 0 0]) ?_ 1 _ rfl; (with_reducible repeat (first | refine blk_drewN ?_ _ | refine blk_drew ?_ | refine blk_alloc ?_ _)); refine blk_put (cs := #[.string (⟨#[]⟩ : ByteArray), .string (⟨#[]⟩ : ByteArray), .slice none 0 0]) ?_ 0 _ rfl; (with_reducible repeat (first | refine blk_drewN ?_ _ | refine blk_drew ?_ | refine blk_alloc ?_ _)); exact BK103.out⟩, ⟨by repeat (first | (with_reducible first | exact HB.out | apply below_alloc | apply pw_below_drewN | apply below_drew1 | refine below_set ?_ GE101.out | refine below_set ?_ GE102.out | refine below_set ?_ GE103.out) | exact HB.out)⟩⟩
  case round =>
    clear H'
    try clear c1
    try clear p2
    try clear c4
    try clear c7
    try clear c8
    try clear hcz10_0
    try clear hcz10_1
    try clear hcz10_2
    try clear hcz5_0
    try clear hcz5_1
    try clear hcz5_2
    try clear hcz9_0
    try clear hcz9_1
    try clear hcz9_2
    try clear hfz10_0
    try clear hfz10_1
    try clear hfz10_2
    try clear hfz5_0
    try clear hfz5_1
    try clear hfz5_2
    try clear hfz9_0
    try clear hfz9_1
    try clear hfz9_2
    obtain ⟨x14_1, x104002_1, u104002, rfl, HA, HK1, HO_12, HO_102002, HO_104002, BK101, BK102, BK103, HB⟩ := hrel
    cases gk with
    | zero => exact absurd HA.out (by simp [colloquylaw20_of.l0])
    | succ k1 =>
      have H := HA.out
      clear HA
      simp only [colloquylaw20_of.l0] at H
      by_cases c11 : x14_1 < (l0_2.length : Int)
      · rw [if_pos c11] at H
        have c11b0 : decide (x14_1 < (l0_2.length : Int)) = true := decide_eq_true c11
        clear c11
        by_cases c12 : 0 ≤ x14_1
        · rw [if_pos c12] at H
          have c12b0 : decide (0 ≤ x14_1) = true := decide_eq_true c12
          clear c12
          by_cases c13 : x14_1 < (l0_2.length : Int)
          · rw [if_pos c13] at H
            have c13b0 : decide (x14_1 < (l0_2.length : Int)) = true := decide_eq_true c13
            clear c13
            by_cases c14 : x104002_1.length < 3518437208883
            · rw [if_pos c14] at H
              have LMc14 := Aside0.mk c14
              clear c14
              obtain ⟨y106, hy106⟩ : ∃ y_ : List (S53), y_ = (x104002_1 ++ [(⟨(rd_T46 l0_2 x14_1).f0, (rd_T46 l0_2 x14_1).f1⟩ : S53)]) := ⟨_, rfl⟩
              replace H : (colloquylaw20_of.l0 k1 l0_2 (l0_2.length : Int) (wrap64 (x14_1 + 1)) a0_0 a0_1 y106) = some (r1, r2, r3) := by first | (rw [hy106]; with_reducible exact H) | (have H2_ := (Option.bind_some _ _).symm.trans H; rw [hy106]; with_reducible exact H2_) | (have H2_ := (Option.bind_some _ _).symm.trans H; with_reducible exact H2_) | with_reducible exact H | (rw [hy106]; exact H) | exact H
              have Ny106 := Aside0.mk hy106
              clear hy106
              have H' := Aside0.mk H
              clear H
              have p104 : 0 ≤ (x14_1 : Int) := of_decide_eq_true (by first | (with_reducible assumption) | assumption)
              have q104 : x14_1 < (l0_2.length : Int) := of_decide_eq_true (by first | (with_reducible assumption) | assumption)
              obtain ⟨ad104, A104_1, c104_1, e104, hx104_0, hx104_1, hl104_1, hi104_1⟩ := at_T46 (Kd.V_reads' HO_12.out).2.2 x14_1 p104 q104
              cases e104
              obtain ⟨ce104, hce104, hMe104, hcc104⟩ := Kd.V_get HO_12.out z46 x14_1 p104 (by first | exact q104 | exact of_decide_eq_true (by first | (with_reducible assumption) | assumption) | (have e_ := (Kd.V_reads' HO_12.out).1; omega))
              obtain ⟨ua104_1, uc104_1, rfl, ul104_1, ge104_1⟩ := k46_openF hMe104
              have hv104_1 := hcc104 1 _ rfl
              rw [add_field _ _ 1 (by omega)] at hv104_1
              replace hv104_1 := Option.some.inj (hv104_1.symm.trans hx104_1)
              injection hv104_1 with hva_ hvn_ hvc_
              rw [hva_] at ge104_1
              rw [hvc_] at ul104_1
              have HL104_1 := Aside0.mk (show Kd.V k49 49 _ w.heap.size _ _ ((rd_T46 l0_2 x14_1).f1) from Kd.V_mk ul104_1 ge104_1)
              clear hva_ hvn_ hvc_ ge104_1 ul104_1
              clear hcc104 hce104
              have HR104_1 := Aside0.mk hi104_1
              have HC104_1 := Aside0.mk hl104_1
              clear hi104_1 hl104_1
              replace p104 := eq_true p104
              replace q104 := eq_true q104
              go_wp2_with (first | ((with_reducible refine gate_dst (N := 5) rfl ?_); refine box_event ?hg (N := 5) ?hd (cs := #[.string (⟨#[]⟩ : ByteArray), .slice none 0 0]) (t := 46) ?hr ?_; (case hd => rfl); (case hg => rfl); (case hr => first | (go_simp; done) | (go_simp; rfl)); intro gb105 hg w15 hbox hb; have n0_ := Aside0.mk (Kd.V_below (Kd.V_elderB (by (with_reducible repeat (first | apply Kd.V_alloc | apply Kd.V_drewN | apply Kd.V_drew)); exact HO_12.out) gb105 (Nat.le_of_eq hg.symm)) hb); have n1_ := Aside0.mk (Kd.V_below (Kd.V_elderB (by (with_reducible repeat (first | apply Kd.V_alloc | apply Kd.V_drewN | apply Kd.V_drew)); exact HO_102002.out) gb105 (Nat.le_of_eq hg.symm)) hb); have n2_ := Aside0.mk (Kd.N_below (Kd.N_elderB (by (with_reducible repeat (first | apply Kd.N_alloc | apply Kd.N_drewN | apply Kd.N_drew)); exact HO_104002.out) gb105 (Nat.le_of_eq hg.symm)) hb); have n3_ := Aside0.mk (Kd.V_below (Kd.V_elderB (by (with_reducible repeat (first | apply Kd.V_alloc | apply Kd.V_drewN | apply Kd.V_drew)); exact HL104_1.out) gb105 (Nat.le_of_eq hg.symm)) hb); have n4_ := Aside0.mk (blk_below (g := gb101) (o := .cells #[.string a0_0, .string a0_1, .slice (some ad104) l0_2.length c0_2] 24 (0, 0)) (by (with_reducible repeat (first | refine blk_drewN ?_ _ | refine blk_drew ?_ | refine blk_alloc ?_ _)); exact BK101.out) hb); have n5_ := Aside0.mk (blk_below (g := gb102) (o := .cells #[.string (⟨#[]⟩ : ByteArray), .string (⟨#[]⟩ : ByteArray), .slice none 0 0] 29 (0, 0)) (by (with_reducible repeat (first | refine blk_drewN ?_ _ | refine blk_drew ?_ | refine blk_alloc ?_ _)); exact BK102.out) hb); have n6_ := Aside0.mk (blk_below (g := gb103) (o := .cells #[.string a0_0, .string a0_1, u104002] 29 (0, 0)) (by (with_reducible repeat (first | refine blk_drewN ?_ _ | refine blk_drew ?_ | refine blk_alloc ?_ _)); exact BK103.out) hb); have n7_ := Aside0.mk (Kd.C_below (by repeat (first | (with_reducible exact HR104_1.out) | (with_reducible refine Kd.C_alloc ?_ _) | (with_reducible refine Kd.C_drewN ?_ _) | (with_reducible refine Kd.C_drew ?_) | exact HR104_1.out)) hb); have n8_ := Aside0.mk (below_step (by repeat (first | (with_reducible first | exact HB.out | apply below_alloc | apply pw_below_drewN | apply below_drew1 | refine below_set ?_ GE101.out | refine below_set ?_ GE102.out | refine below_set ?_ GE103.out) | exact HB.out)) hb); have n9_ := Aside0.mk (hbox); have n10_ := Aside0.mk ((by rw [hg]; exact (below_size (by repeat (first | (with_reducible first | exact HB.out | apply below_alloc | apply pw_below_drewN | apply below_drew1 | refine below_set ?_ GE101.out | refine below_set ?_ GE102.out | refine below_set ?_ GE103.out) | exact HB.out))) : w.heap.size ≤ gb105)); have n11_ := Aside0.mk ((by rw [hg]; exact (below_size (by repeat (first | (with_reducible first | exact HB.out | apply below_alloc | apply pw_below_drewN | apply below_drew1 | refine below_set ?_ GE101.out | refine below_set ?_ GE102.out | refine below_set ?_ GE103.out) | exact HB.out))) : w.heap.size ≤ gb105)); have n12_ := Aside0.mk ((by rw [hg]; exact Nat.ne_of_lt (blk_lt (g := gb101) (o := .cells #[.string a0_0, .string a0_1, .slice (some ad104) l0_2.length c0_2] 24 (0, 0)) (by (with_reducible repeat (first | refine blk_drewN ?_ _ | refine blk_drew ?_ | refine blk_alloc ?_ _)); exact BK101.out)) : gb101 ≠ gb105)); have n13_ := Aside0.mk ((by rw [hg]; exact Nat.ne_of_gt (blk_lt (g := gb101) (o := .cells #[.string a0_0, .string a0_1, .slice (some ad104) l0_2.length c0_2] 24 (0, 0)) (by (with_reducible repeat (first | refine blk_drewN ?_ _ | refine blk_drew ?_ | refine blk_alloc ?_ _)); exact BK101.out)) : gb105 ≠ gb101)); have n14_ := Aside0.mk ((by rw [hg]; exact Nat.ne_of_lt (blk_lt (g := gb102) (o := .cells #[.string (⟨#[]⟩ : ByteArray), .string (⟨#[]⟩ : ByteArray), .slice none 0 0] 29 (0, 0)) (by (with_reducible repeat (first | refine blk_drewN ?_ _ | refine blk_drew ?_ | refine blk_alloc ?_ _)); exact BK102.out)) : gb102 ≠ gb105)); have n15_ := Aside0.mk ((by rw [hg]; exact Nat.ne_of_gt (blk_lt (g := gb102) (o := .cells #[.string (⟨#[]⟩ : ByteArray), .string (⟨#[]⟩ : ByteArray), .slice none 0 0] 29 (0, 0)) (by (with_reducible repeat (first | refine blk_drewN ?_ _ | refine blk_drew ?_ | refine blk_alloc ?_ _)); exact BK102.out)) : gb105 ≠ gb102)); have n16_ := Aside0.mk ((by rw [hg]; exact Nat.ne_of_lt (blk_lt (g := gb103) (o := .cells #[.string a0_0, .string a0_1, u104002] 29 (0, 0)) (by (with_reducible repeat (first | refine blk_drewN ?_ _ | refine blk_drew ?_ | refine blk_alloc ?_ _)); exact BK103.out)) : gb103 ≠ gb105)); have n17_ := Aside0.mk ((by rw [hg]; exact Nat.ne_of_gt (blk_lt (g := gb103) (o := .cells #[.string a0_0, .string a0_1, u104002] 29 (0, 0)) (by (with_reducible repeat (first | refine blk_drewN ?_ _ | refine blk_drew ?_ | refine blk_alloc ?_ _)); exact BK103.out)) : gb105 ≠ gb103)); clear HO_12; clear HO_102002; clear HO_104002; clear HL104_1; clear BK101; clear BK102; clear BK103; clear HR104_1; clear HB; have HO_12 := n0_; have HO_102002 := n1_; have HO_104002 := n2_; have HL104_1 := n3_; have BK101 := n4_; have BK102 := n5_; have BK103 := n6_; have HR104_1 := n7_; have HB := n8_; have BK105 := n9_; have GW105 := n10_; have GE105 := n11_; have NB101_105 := n12_; have NB105_101 := n13_; have NB102_105 := n14_; have NB105_102 := n15_; have NB103_105 := n16_; have NB105_103 := n17_; clear n0_ n1_ n2_ n3_ n4_ n5_ n6_ n7_ n8_ n9_ n10_ n11_ n12_ n13_ n14_ n15_ n16_ n17_; clear hb hbox hg; have hnb16 := NB105_101.out; have hnc16 := NB101_105.out; have hnb17 := NB105_102.out; have hnc17 := NB102_105.out; have hnb18 := NB105_103.out; have hnc18 := NB103_105.out; have hcz19_0 : w15.cell? ⟨gb105, 0, none⟩ = some (.string (⟨#[]⟩ : ByteArray)) := (blk_cell BK105.out 0).trans rfl; have hcz19_1 : w15.cell? ⟨gb105, 1, none⟩ = some (.slice none 0 0) := (blk_cell BK105.out 1).trans rfl; have hfz19_0 := blk_frozen BK105.out 0; have hfz19_1 := blk_frozen BK105.out 1) | ((with_reducible refine gate_store (t := 46) (p := 5) rfl ?_); refine store_event (t := 46) (p := 5) (v := ?vo_w20) (w1 := ((w15.setCell ⟨gb105, 0, none⟩ (.string ((rd_T46 l0_2 x14_1).f0))).setCell ⟨gb105, 1, none⟩ (.slice A104_1 ((rd_T46 l0_2 x14_1).f1).length c104_1))) ?hg ?ho ?hn ?hr ?_; (case ho => rfl); (case hg => rfl); (case hn => rfl); (case hr => first | (go_simp; done) | (go_simp; rfl)); intro w20 hw; have n0_ : Aside0 (Kd.V k46 46 w20 w.heap.size (fun k_ => (P0_2_ k_ ∨ w.heap.size ≤ k_) ∧ some k_ ≠ (u104002 : Value).ownBlock ∧ k_ ≠ gb101 ∧ k_ ≠ gb102 ∧ k_ ≠ gb103 ∧ k_ ≠ gb105) (.slice (some ad104) l0_2.length c0_2) l0_2) := ⟨(by rw [hw]; exact (by (with_reducible repeat (first | apply Kd.V_alloc | apply Kd.V_drewN | apply Kd.V_drew)); exact Kd.V_mono (Kd.V_far (p := ⟨gb105, 1, none⟩) (Kd.V_far (p := ⟨gb105, 0, none⟩) (Kd.V_mono HO_12.out (fun k_ hk => (⟨hk, hk.2⟩ : _ ∧ k_ ≠ gb105))) (fun _ hk => hk.2) (.string ((rd_T46 l0_2 x14_1).f0))) (fun _ hk => hk.2) (.slice A104_1 ((rd_T46 l0_2 x14_1).f1).length c104_1)) (fun _ hk => ⟨hk.1.1.1, ⟨hk.1.1.2.1, ⟨hk.1.1.2.2.1, ⟨hk.1.1.2.2.2.1, ⟨hk.1.1.2.2.2.2, hk.1.2⟩⟩⟩⟩⟩)))⟩; have n1_ : Aside0 (Kd.V k46 46 w20 w.heap.size (fun k_ => (P0_2_ k_ ∨ w.heap.size ≤ k_) ∧ some k_ ≠ (u104002 : Value).ownBlock ∧ k_ ≠ gb101 ∧ k_ ≠ gb102 ∧ k_ ≠ gb103 ∧ k_ ≠ gb105) (.slice (some ad104) l0_2.length c0_2) l0_2) := ⟨(by rw [hw]; exact (by (with_reducible repeat (first | apply Kd.V_alloc | apply Kd.V_drewN | apply Kd.V_drew)); exact Kd.V_mono (Kd.V_far (p := ⟨gb105, 1, none⟩) (Kd.V_far (p := ⟨gb105, 0, none⟩) (Kd.V_mono HO_102002.out (fun k_ hk => (⟨hk, hk.2⟩ : _ ∧ k_ ≠ gb105))) (fun _ hk => hk.2) (.string ((rd_T46 l0_2 x14_1).f0))) (fun _ hk => hk.2) (.slice A104_1 ((rd_T46 l0_2 x14_1).f1).length c104_1)) (fun _ hk => ⟨hk.1.1.1, ⟨hk.1.1.2.1, ⟨hk.1.1.2.2.1, ⟨hk.1.1.2.2.2.1, ⟨hk.1.1.2.2.2.2, hk.1.2⟩⟩⟩⟩⟩)))⟩; have n2_ : Aside0 (Kd.N k53 53 w20 w.heap.size (fun k_ => (P0_2_ k_ ∨ w.heap.size ≤ k_) ∧ k_ ≠ gb101 ∧ k_ ≠ gb102 ∧ k_ ≠ gb103 ∧ k_ ≠ gb105) u104002 x104002_1) := ⟨(by rw [hw]; exact (by (with_reducible repeat (first | apply Kd.N_alloc | apply Kd.N_drewN | apply Kd.N_drew)); exact Kd.N_mono (Kd.N_far (p := ⟨gb105, 1, none⟩) (Kd.N_far (p := ⟨gb105, 0, none⟩) (Kd.N_mono HO_104002.out (fun k_ hk => (⟨hk, hk.2⟩ : _ ∧ k_ ≠ gb105))) (fun _ hk => hk.2) (.string ((rd_T46 l0_2 x14_1).f0))) (fun _ hk => hk.2) (.slice A104_1 ((rd_T46 l0_2 x14_1).f1).length c104_1)) (fun _ hk => ⟨hk.1.1.1, ⟨hk.1.1.2.1, ⟨hk.1.1.2.2.1, ⟨hk.1.1.2.2.2, hk.1.2⟩⟩⟩⟩)))⟩; have n3_ : Aside0 (Kd.V k49 49 w20 w.heap.size (fun k_ => (P0_2_ k_ ∨ w.heap.size ≤ k_) ∧ some k_ ≠ (u104002 : Value).ownBlock ∧ k_ ≠ gb101 ∧ k_ ≠ gb102 ∧ k_ ≠ gb103 ∧ k_ ≠ gb105) (.slice A104_1 ((rd_T46 l0_2 x14_1).f1).length c104_1) ((rd_T46 l0_2 x14_1).f1)) := ⟨(by rw [hw]; exact (by (with_reducible repeat (first | apply Kd.V_alloc | apply Kd.V_drewN | apply Kd.V_drew)); exact Kd.V_mono (Kd.V_far (p := ⟨gb105, 1, none⟩) (Kd.V_far (p := ⟨gb105, 0, none⟩) (Kd.V_mono HL104_1.out (fun k_ hk => (⟨hk, hk.2⟩ : _ ∧ k_ ≠ gb105))) (fun _ hk => hk.2) (.string ((rd_T46 l0_2 x14_1).f0))) (fun _ hk => hk.2) (.slice A104_1 ((rd_T46 l0_2 x14_1).f1).length c104_1)) (fun _ hk => ⟨hk.1.1.1, ⟨hk.1.1.2.1, ⟨hk.1.1.2.2.1, ⟨hk.1.1.2.2.2.1, ⟨hk.1.1.2.2.2.2, hk.1.2⟩⟩⟩⟩⟩)))⟩; have n4_ : Aside0 (w20.heap[gb101]? = some (.cells #[.string a0_0, .string a0_1, .slice (some ad104) l0_2.length c0_2] 24 (0, 0))) := ⟨(by rw [hw]; exact (by (with_reducible repeat (first | refine blk_drewN ?_ _ | refine blk_drew ?_ | refine blk_alloc ?_ _)); refine blk_far ?_ NB101_105.out _; (with_reducible repeat (first | refine blk_drewN ?_ _ | refine blk_drew ?_ | refine blk_alloc ?_ _)); refine blk_far ?_ NB101_105.out _; (with_reducible repeat (first | refine blk_drewN ?_ _ | refine blk_drew ?_ | refine blk_alloc ?_ _)); exact BK101.out))⟩; have n5_ : Aside0 (w20.heap[gb102]? = some (.cells #[.string (⟨#[]⟩ : ByteArray), .string (⟨#[]⟩ : ByteArray), .slice none 0 0] 29 (0, 0))) := ⟨(by rw [hw]; exact (by (with_reducible repeat (first | refine blk_drewN ?_ _ | refine blk_drew ?_ | refine blk_alloc ?_ _)); refine blk_far ?_ NB102_105.out _; (with_reducible repeat (first | refine blk_drewN ?_ _ | refine blk_drew ?_ | refine blk_alloc ?_ _)); refine blk_far ?_ NB102_105.out _; (with_reducible repeat (first | refine blk_drewN ?_ _ | refine blk_drew ?_ | refine blk_alloc ?_ _)); exact BK102.out))⟩; have n6_ : Aside0 (w20.heap[gb103]? = some (.cells #[.string a0_0, .string a0_1, u104002] 29 (0, 0))) := ⟨(by rw [hw]; exact (by (with_reducible repeat (first | refine blk_drewN ?_ _ | refine blk_drew ?_ | refine blk_alloc ?_ _)); refine blk_far ?_ NB103_105.out _; (with_reducible repeat (first | refine blk_drewN ?_ _ | refine blk_drew ?_ | refine blk_alloc ?_ _)); refine blk_far ?_ NB103_105.out _; (with_reducible repeat (first | refine blk_drewN ?_ _ | refine blk_drew ?_ | refine blk_alloc ?_ _)); exact BK103.out))⟩; have n7_ : Aside0 (w20.heap[gb105]? = some (.cells #[.string ((rd_T46 l0_2 x14_1).f0), .slice A104_1 ((rd_T46 l0_2 x14_1).f1).length c104_1] 46 (0, 0))) := ⟨(by rw [hw]; exact (by (with_reducible repeat (first | refine blk_drewN ?_ _ | refine blk_drew ?_ | refine blk_alloc ?_ _)); refine blk_put (cs := #[.string ((rd_T46 l0_2 x14_1).f0), .slice none 0 0]) ?_ 1 _ rfl; (with_reducible repeat (first | refine blk_drewN ?_ _ | refine blk_drew ?_ | refine blk_alloc ?_ _)); refine blk_put (cs := #[.string (⟨#[]⟩ : ByteArray), .slice none 0 0]) ?_ 0 _ rfl; (with_reducible repeat (first | refine blk_drewN ?_ _ | refine blk_drew ?_ | refine blk_alloc ?_ _)); exact BK105.out))⟩; have n8_ : Aside0 (Below w.heap.size w w20) := ⟨(by rw [hw]; exact (by repeat (first | (with_reducible first | exact HB.out | apply below_alloc | apply pw_below_drewN | apply below_drew1 | refine below_set ?_ GE101.out | refine below_set ?_ GE102.out | refine below_set ?_ GE103.out | refine below_set ?_ GE105.out) | exact HB.out)))⟩; clear hw; clear HO_12; clear HO_102002; clear HO_104002; clear HL104_1; clear BK101; clear BK102; clear BK103; clear BK105; clear HB; have HO_12 := n0_; have HO_102002 := n1_; have HO_104002 := n2_; have HL104_1 := n3_; have BK101 := n4_; have BK102 := n5_; have BK103 := n6_; have BK105 := n7_; have HB := n8_; clear n0_ n1_ n2_ n3_ n4_ n5_ n6_ n7_ n8_; have hnb21 := NB103_101.out; have hnc21 := NB101_103.out; have hnb22 := NB103_102.out; have hnc22 := NB102_103.out; have hcz23_0 : w20.cell? ⟨gb103, 0, none⟩ = some (.string a0_0) := (blk_cell BK103.out 0).trans rfl; have hcz23_1 : w20.cell? ⟨gb103, 1, none⟩ = some (.string a0_1) := (blk_cell BK103.out 1).trans rfl; have hcz23_2 : w20.cell? ⟨gb103, 2, none⟩ = some (u104002) := (blk_cell BK103.out 2).trans rfl; have hfz23_0 := blk_frozen BK103.out 0; have hfz23_1 := blk_frozen BK103.out 1; have hfz23_2 := blk_frozen BK103.out 2; have hcz24_0 : w20.cell? ⟨gb105, 0, none⟩ = some (.string ((rd_T46 l0_2 x14_1).f0)) := (blk_cell BK105.out 0).trans rfl; have hcz24_1 : w20.cell? ⟨gb105, 1, none⟩ = some (.slice A104_1 ((rd_T46 l0_2 x14_1).f1).length c104_1) := (blk_cell BK105.out 1).trans rfl; have hfz24_0 := blk_frozen BK105.out 0; have hfz24_1 := blk_frozen BK105.out 1) | ((with_reducible refine gate_builtin (b := .append) (xs := #[.tmp 19, .tmp 25]) rfl ?_); at_builtin; refine Kd.N_append k53 (w0 := w) w.heap.size rfl (.tmp 19) (.tmp 25) 27 53 (.agg #[(.string ⟨#[]⟩), (.slice none 0 0)]) 40 rfl Tryd.underlying27 info53 rfl (by decide) (by omega) u104002 x104002_1 (⟨(rd_T46 l0_2 x14_1).f0, (rd_T46 l0_2 x14_1).f1⟩ : S53) [.string ((rd_T46 l0_2 x14_1).f0), .slice A104_1 ((rd_T46 l0_2 x14_1).f1).length c104_1] (fun k_ => (P0_2_ k_ ∨ w.heap.size ≤ k_) ∧ k_ ≠ gb101 ∧ k_ ≠ gb102 ∧ k_ ≠ gb103 ∧ k_ ≠ gb105) (fun k_ => ((fun k_ => (P0_2_ k_ ∨ w.heap.size ≤ k_) ∧ k_ ≠ gb101 ∧ k_ ≠ gb102 ∧ k_ ≠ gb103 ∧ k_ ≠ gb105)) k_ ∧ some k_ ≠ (u104002 : Value).ownBlock) rfl rfl ?aP (fun _ hk => hk) ?aF ?aO ?aB ?aS ?aL ?_; (case aP => exact (k53_mkF _ _ (⟨(rd_T46 l0_2 x14_1).f0, (rd_T46 l0_2 x14_1).f1⟩ : S53) (Kd.V_reads' (Kd.V_mono (ok' := (fun k_ => ((fun k_ => (P0_2_ k_ ∨ w.heap.size ≤ k_) ∧ k_ ≠ gb101 ∧ k_ ≠ gb102 ∧ k_ ≠ gb103 ∧ k_ ≠ gb105)) k_ ∧ some k_ ≠ (u104002 : Value).ownBlock)) (HL104_1.out) (fun k_ hk => ⟨⟨hk.1, ⟨hk.2.2.1, ⟨hk.2.2.2.1, ⟨hk.2.2.2.2.1, hk.2.2.2.2.2⟩⟩⟩⟩, hk.2.1⟩))).2.1 (Kd.V_F (Kd.V_mono (ok' := (fun k_ => ((fun k_ => (P0_2_ k_ ∨ w.heap.size ≤ k_) ∧ k_ ≠ gb101 ∧ k_ ≠ gb102 ∧ k_ ≠ gb103 ∧ k_ ≠ gb105)) k_ ∧ some k_ ≠ (u104002 : Value).ownBlock)) (HL104_1.out) (fun k_ hk => ⟨⟨hk.1, ⟨hk.2.2.1, ⟨hk.2.2.2.1, ⟨hk.2.2.2.2.1, hk.2.2.2.2.2⟩⟩⟩⟩, hk.2.1⟩))))); (case aB => exact (by repeat (first | (with_reducible first | exact HB.out | apply below_alloc | apply pw_below_drewN | apply below_drew1 | refine below_set ?_ GE101.out | refine below_set ?_ GE102.out | refine below_set ?_ GE103.out | refine below_set ?_ GE105.out) | exact HB.out))); (case aF => exact (fun k_ hk => ⟨(.inr (Nat.le_trans (below_size (by repeat (first | (with_reducible first | exact HB.out | apply below_alloc | apply pw_below_drewN | apply below_drew1 | refine below_set ?_ GE101.out | refine below_set ?_ GE102.out | refine below_set ?_ GE103.out | refine below_set ?_ GE105.out) | exact HB.out))) hk)), Kd.freshB (g := gb101) (o := .cells #[.string a0_0, .string a0_1, .slice (some ad104) l0_2.length c0_2] 24 (0, 0)) (by (with_reducible repeat (first | refine blk_drewN ?_ _ | refine blk_drew ?_ | refine blk_alloc ?_ _)); exact BK101.out) k_ hk, Kd.freshB (g := gb102) (o := .cells #[.string (⟨#[]⟩ : ByteArray), .string (⟨#[]⟩ : ByteArray), .slice none 0 0] 29 (0, 0)) (by (with_reducible repeat (first | refine blk_drewN ?_ _ | refine blk_drew ?_ | refine blk_alloc ?_ _)); exact BK102.out) k_ hk, Kd.freshB (g := gb103) (o := .cells #[.string a0_0, .string a0_1, u104002] 29 (0, 0)) (by (with_reducible repeat (first | refine blk_drewN ?_ _ | refine blk_drew ?_ | refine blk_alloc ?_ _)); exact BK103.out) k_ hk, Kd.freshB (g := gb105) (o := .cells #[.string ((rd_T46 l0_2 x14_1).f0), .slice A104_1 ((rd_T46 l0_2 x14_1).f1).length c104_1] 46 (0, 0)) (by (with_reducible repeat (first | refine blk_drewN ?_ _ | refine blk_drew ?_ | refine blk_alloc ?_ _)); exact BK105.out) k_ hk⟩)); (case aO => exact (by (with_reducible repeat (first | apply Kd.N_alloc | apply Kd.N_drewN | apply Kd.N_drew)); exact HO_104002.out)); (case aS => exact (below_size (by repeat (first | (with_reducible first | exact HB.out | apply below_alloc | apply pw_below_drewN | apply below_drew1 | refine below_set ?_ GE101.out | refine below_set ?_ GE102.out | refine below_set ?_ GE103.out | refine below_set ?_ GE105.out) | exact HB.out)))); (case aL => have := LMc14.out; omega); intro v107 w25 ho hb hg hat; rw [← Ny106.out] at ho; have n0_ := Aside0.mk (Kd.V_afterv (ok := (fun k_ => (P0_2_ k_ ∨ w.heap.size ≤ k_) ∧ k_ ≠ gb101 ∧ k_ ≠ gb102 ∧ k_ ≠ gb103 ∧ k_ ≠ gb105)) (by (with_reducible repeat (first | apply Kd.V_alloc | apply Kd.V_drewN | apply Kd.V_drew)); exact Kd.V_mono HO_12.out (fun _ hk => ⟨⟨hk.1, ⟨hk.2.2.1, ⟨hk.2.2.2.1, ⟨hk.2.2.2.2.1, hk.2.2.2.2.2⟩⟩⟩⟩, hk.2.1⟩)) hg hat); have n1_ := Aside0.mk (Kd.V_afterv (ok := (fun k_ => (P0_2_ k_ ∨ w.heap.size ≤ k_) ∧ k_ ≠ gb101 ∧ k_ ≠ gb102 ∧ k_ ≠ gb103 ∧ k_ ≠ gb105)) (by (with_reducible repeat (first | apply Kd.V_alloc | apply Kd.V_drewN | apply Kd.V_drew)); exact Kd.V_mono HO_102002.out (fun _ hk => ⟨⟨hk.1, ⟨hk.2.2.1, ⟨hk.2.2.2.1, ⟨hk.2.2.2.2.1, hk.2.2.2.2.2⟩⟩⟩⟩, hk.2.1⟩)) hg hat); have n2_ := Aside0.mk (blk_grown (g := gb101) (o := .cells #[.string a0_0, .string a0_1, .slice (some ad104) l0_2.length c0_2] 24 (0, 0)) (by (with_reducible repeat (first | refine blk_drewN ?_ _ | refine blk_drew ?_ | refine blk_alloc ?_ _)); exact BK101.out) hg (Kd.N_ne HO_104002.out BK101.out (by decide))); have n3_ := Aside0.mk (blk_grown (g := gb102) (o := .cells #[.string (⟨#[]⟩ : ByteArray), .string (⟨#[]⟩ : ByteArray), .slice none 0 0] 29 (0, 0)) (by (with_reducible repeat (first | refine blk_drewN ?_ _ | refine blk_drew ?_ | refine blk_alloc ?_ _)); exact BK102.out) hg (Kd.N_ne HO_104002.out BK102.out (by decide))); have n4_ := Aside0.mk (blk_grown (g := gb103) (o := .cells #[.string a0_0, .string a0_1, u104002] 29 (0, 0)) (by (with_reducible repeat (first | refine blk_drewN ?_ _ | refine blk_drew ?_ | refine blk_alloc ?_ _)); exact BK103.out) hg (Kd.N_ne HO_104002.out BK103.out (by decide))); have n5_ := Aside0.mk (Kd.V_afterv (ok := (fun k_ => (P0_2_ k_ ∨ w.heap.size ≤ k_) ∧ k_ ≠ gb101 ∧ k_ ≠ gb102 ∧ k_ ≠ gb103 ∧ k_ ≠ gb105)) (by (with_reducible repeat (first | apply Kd.V_alloc | apply Kd.V_drewN | apply Kd.V_drew)); exact Kd.V_mono HL104_1.out (fun _ hk => ⟨⟨hk.1, ⟨hk.2.2.1, ⟨hk.2.2.2.1, ⟨hk.2.2.2.2.1, hk.2.2.2.2.2⟩⟩⟩⟩, hk.2.1⟩)) hg hat); have n6_ := Aside0.mk (blk_grown (g := gb105) (o := .cells #[.string ((rd_T46 l0_2 x14_1).f0), .slice A104_1 ((rd_T46 l0_2 x14_1).f1).length c104_1] 46 (0, 0)) (by (with_reducible repeat (first | refine blk_drewN ?_ _ | refine blk_drew ?_ | refine blk_alloc ?_ _)); exact BK105.out) hg (Kd.N_ne HO_104002.out BK105.out (by decide))); have n7_ := Aside0.mk (hb); have n8_ := Aside0.mk (ho); clear HO_12; clear HO_102002; clear BK101; clear BK102; clear BK103; clear HL104_1; clear BK105; clear HB; clear HO_104002; have HO_12 := n0_; have HO_102002 := n1_; have BK101 := n2_; have BK102 := n3_; have BK103 := n4_; have HL104_1 := n5_; have BK105 := n6_; have HB := n7_; have HO108 := n8_; clear n0_ n1_ n2_ n3_ n4_ n5_ n6_ n7_ n8_; clear ho hb hg hat; obtain ⟨Ao26, co26, eo26⟩ := Kd.N_slice HO108.out; subst eo26; have hcz27_0 : w25.cell? ⟨gb103, 0, none⟩ = some (.string a0_0) := (blk_cell BK103.out 0).trans rfl; have hcz27_1 : w25.cell? ⟨gb103, 1, none⟩ = some (.string a0_1) := (blk_cell BK103.out 1).trans rfl; have hcz27_2 : w25.cell? ⟨gb103, 2, none⟩ = some (u104002) := (blk_cell BK103.out 2).trans rfl; have hfz27_0 := blk_frozen BK103.out 0; have hfz27_1 := blk_frozen BK103.out 1; have hfz27_2 := blk_frozen BK103.out 2))
              go_roundg k1
              case measure => have := HK1.out; omega
              case rel => exact ⟨(wrap64 (x14_1 + 1)), (y106), (.slice Ao26 y106.length co26), (by first | rfl | (simp; done) | (simp [*]; done)), H', ⟨by have := HK1.out; omega⟩, ⟨by (with_reducible repeat (first | apply Kd.V_alloc | apply Kd.V_drewN | apply Kd.V_drew)); exact Kd.V_mono (Kd.V_far (p := ⟨gb103, 2, none⟩) (Kd.V_mono HO_12.out (fun k_ hk => (⟨hk, hk.1.2.2.2.1⟩ : _ ∧ k_ ≠ gb103))) (fun _ hk => hk.2) (.slice Ao26 y106.length co26)) (fun _ hk => ⟨hk.1.1.1, ⟨hk.1.2, ⟨hk.1.1.2.1, ⟨hk.1.1.2.2.1, hk.1.1.2.2.2.1⟩⟩⟩⟩)⟩, ⟨by (with_reducible repeat (first | apply Kd.V_alloc | apply Kd.V_drewN | apply Kd.V_drew)); exact Kd.V_mono (Kd.V_far (p := ⟨gb103, 2, none⟩) (Kd.V_mono HO_102002.out (fun k_ hk => (⟨hk, hk.1.2.2.2.1⟩ : _ ∧ k_ ≠ gb103))) (fun _ hk => hk.2) (.slice Ao26 y106.length co26)) (fun _ hk => ⟨hk.1.1.1, ⟨hk.1.2, ⟨hk.1.1.2.1, ⟨hk.1.1.2.2.1, hk.1.1.2.2.2.1⟩⟩⟩⟩)⟩, ⟨by (with_reducible repeat (first | apply Kd.N_alloc | apply Kd.N_drewN | apply Kd.N_drew)); exact Kd.N_mono (Kd.N_far (p := ⟨gb103, 2, none⟩) (Kd.N_mono HO108.out (fun k_ hk => (⟨hk, hk.2.2.2.1⟩ : _ ∧ k_ ≠ gb103))) (fun _ hk => hk.2) (.slice Ao26 y106.length co26)) (fun _ hk => ⟨hk.1.1, ⟨hk.1.2.1, ⟨hk.1.2.2.1, hk.1.2.2.2.1⟩⟩⟩)⟩, ⟨by (with_reducible repeat (first | refine blk_drewN ?_ _ | refine blk_drew ?_ | refine blk_alloc ?_ _)); refine blk_far ?_ NB101_103.out _; (with_reducible repeat (first | refine blk_drewN ?_ _ | refine blk_drew ?_ | refine blk_alloc ?_ _)); exact BK101.out⟩, ⟨by (with_reducible repeat (first | refine blk_drewN ?_ _ | refine blk_drew ?_ | refine blk_alloc ?_ _)); refine blk_far ?_ NB102_103.out _; (with_reducible repeat (first | refine blk_drewN ?_ _ | refine blk_drew ?_ | refine blk_alloc ?_ _)); exact BK102.out⟩, ⟨by (with_reducible repeat (first | refine blk_drewN ?_ _ | refine blk_drew ?_ | refine blk_alloc ?_ _)); refine blk_put (cs := #[.string a0_0, .string a0_1, u104002]) ?_ 2 _ rfl; (with_reducible repeat (first | refine blk_drewN ?_ _ | refine blk_drew ?_ | refine blk_alloc ?_ _)); exact BK103.out⟩, ⟨by repeat (first | (with_reducible first | exact HB.out | apply below_alloc | apply pw_below_drewN | apply below_drew1 | refine below_set ?_ GE101.out | refine below_set ?_ GE102.out | refine below_set ?_ GE103.out | refine below_set ?_ GE105.out) | exact HB.out)⟩⟩
            · rw [if_neg c14] at H
              exact absurd H (by simp)
          · rw [if_neg c13] at H
            exact absurd H (by simp)
        · rw [if_neg c12] at H
          exact absurd H (by simp)
      · rw [if_neg c11] at H
        have c11b0 : decide (x14_1 < (l0_2.length : Int)) = false := decide_eq_false c11
        clear c11
        simp only [Option.some.injEq, Prod.mk.injEq] at H
        obtain ⟨rfl, rfl, rfl⟩ := H
        have hnb28 := NB103_101.out
        have hnc28 := NB101_103.out
        have hnb29 := NB103_102.out
        have hnc29 := NB102_103.out
        have hcz30_0 : wr.cell? ⟨gb103, 0, none⟩ = some (.string a0_0) := (blk_cell BK103.out 0).trans rfl
        have hcz30_1 : wr.cell? ⟨gb103, 1, none⟩ = some (.string a0_1) := (blk_cell BK103.out 1).trans rfl
        have hcz30_2 : wr.cell? ⟨gb103, 2, none⟩ = some (u104002) := (blk_cell BK103.out 2).trans rfl
        have hfz30_0 := blk_frozen BK103.out 0
        have hfz30_1 := blk_frozen BK103.out 1
        have hfz30_2 := blk_frozen BK103.out 2
        have hnb31 := NB102_101.out
        have hnc31 := NB101_102.out
        have hcz32_0 : wr.cell? ⟨gb102, 0, none⟩ = some (.string (⟨#[]⟩ : ByteArray)) := (blk_cell BK102.out 0).trans rfl
        have hcz32_1 : wr.cell? ⟨gb102, 1, none⟩ = some (.string (⟨#[]⟩ : ByteArray)) := (blk_cell BK102.out 1).trans rfl
        have hcz32_2 : wr.cell? ⟨gb102, 2, none⟩ = some (.slice none 0 0) := (blk_cell BK102.out 2).trans rfl
        have hfz32_0 := blk_frozen BK102.out 0
        have hfz32_1 := blk_frozen BK102.out 1
        have hfz32_2 := blk_frozen BK102.out 2
        obtain ⟨Ao33, co33, eo33⟩ := Kd.N_slice HO_104002.out
        subst eo33
        go_wp2
        refine bodyPost_ret (results_cell_row rfl _ _ gb102 29 #[.string a0_0, .string a0_1, .slice Ao33 x104002_1.length co33] (0, 0) _ rfl (by (with_reducible repeat (first | refine blk_drewN ?_ _ | refine blk_drew ?_ | refine blk_alloc ?_ _)); refine blk_put (cs := #[.string a0_0, .string a0_1, .slice none 0 0]) ?_ 2 _ rfl; (with_reducible repeat (first | refine blk_drewN ?_ _ | refine blk_drew ?_ | refine blk_alloc ?_ _)); refine blk_put (cs := #[.string a0_0, .string (⟨#[]⟩ : ByteArray), .slice none 0 0]) ?_ 1 _ rfl; (with_reducible repeat (first | refine blk_drewN ?_ _ | refine blk_drew ?_ | refine blk_alloc ?_ _)); refine blk_put (cs := #[.string (⟨#[]⟩ : ByteArray), .string (⟨#[]⟩ : ByteArray), .slice none 0 0]) ?_ 0 _ rfl; (with_reducible repeat (first | refine blk_drewN ?_ _ | refine blk_drew ?_ | refine blk_alloc ?_ _)); exact BK102.out) Tryd.underlying29 rfl (by kernel_rfl)) rfl ?_
        exact ⟨_, by first | rfl | (simp [errW_none, errW_some] <;> rfl) | (simp [*, errW_none, errW_some] <;> rfl), by (with_reducible repeat (first | apply Kd.N_alloc | apply Kd.N_drewN | apply Kd.N_drew)); exact Kd.N_mono (Kd.N_far (p := ⟨gb102, 2, none⟩) (Kd.N_far (p := ⟨gb102, 1, none⟩) (Kd.N_far (p := ⟨gb102, 0, none⟩) (Kd.N_mono HO_104002.out (fun k_ hk => (⟨hk, hk.2.2.1⟩ : _ ∧ k_ ≠ gb102))) (fun _ hk => hk.2) (.string a0_0)) (fun _ hk => hk.2) (.string a0_1)) (fun _ hk => hk.2) (.slice Ao33 x104002_1.length co33)) (fun _ hk => hk.1.1), by repeat (first | (with_reducible first | exact HB.out | apply below_alloc | apply pw_below_drewN | apply below_drew1 | refine below_set ?_ GE101.out | refine below_set ?_ GE102.out | refine below_set ?_ GE103.out) | exact HB.out)⟩
end
section
attribute [local go_sem] max2_int min2_int max_two min_two max_three min_three max_four min_four   -- for this text's walks alone
def colloquylaw20_first.f  : Option (ByteArray × ByteArray × (List (S46))) := some ((⟨#[115]⟩ : ByteArray), (⟨#[98]⟩ : ByteArray), (([(⟨(⟨#[103]⟩ : ByteArray), (([(⟨(⟨#[116]⟩ : ByteArray), 1⟩ : S49)] : List (S49)))⟩ : S46)] : List (S46))))
theorem colloquylaw20_first.calls  (r1 : ByteArray) (r2 : ByteArray) (r3 : List (S46)) (w : World) (h : colloquylaw20_first.f  = some (r1, r2, r3)) :
    Calls Tryd.prog 21 #[] w fun e w' => ∃ v2_ : Value, e = .returned (.agg #[.string r1, .string r2, v2_]) ∧ Kd.N k46 46 w' w.heap.size (fun k_ => (w.heap.size ≤ k_)) v2_ r3 ∧ Below w.heap.size w w' := by
  have hu24 := Tryd.underlying24
  have hu49 := Tryd.underlying49
  have hu46 := Tryd.underlying46
  have HB := Aside0.mk (Below.refl w.heap.size w)
  have H : (some ((⟨#[115]⟩ : ByteArray), (⟨#[98]⟩ : ByteArray), (([(⟨(⟨#[103]⟩ : ByteArray), (([(⟨(⟨#[116]⟩ : ByteArray), 1⟩ : S49)] : List (S49)))⟩ : S46)] : List (S46))))) = some (r1, r2, r3) := h
  clear h
  obtain ⟨y196, hy196⟩ : ∃ y_ : List (S49), y_ = (([(⟨(⟨#[116]⟩ : ByteArray), 1⟩ : S49)] : List (S49))) := ⟨_, rfl⟩
  replace H : (some ((⟨#[115]⟩ : ByteArray), (⟨#[98]⟩ : ByteArray), (([(⟨(⟨#[103]⟩ : ByteArray), y196⟩ : S46)] : List (S46))))) = some (r1, r2, r3) := by first | (rw [hy196]; with_reducible exact H) | (have H2_ := (Option.bind_some _ _).symm.trans H; rw [hy196]; with_reducible exact H2_) | (have H2_ := (Option.bind_some _ _).symm.trans H; with_reducible exact H2_) | with_reducible exact H | (rw [hy196]; exact H) | exact H
  have Ny196 := Aside0.mk hy196
  clear hy196
  obtain ⟨y199, hy199⟩ : ∃ y_ : List (S46), y_ = (([(⟨(⟨#[103]⟩ : ByteArray), y196⟩ : S46)] : List (S46))) := ⟨_, rfl⟩
  replace H : (some ((⟨#[115]⟩ : ByteArray), (⟨#[98]⟩ : ByteArray), y199)) = some (r1, r2, r3) := by first | (rw [hy199]; with_reducible exact H) | (have H2_ := (Option.bind_some _ _).symm.trans H; rw [hy199]; with_reducible exact H2_) | (have H2_ := (Option.bind_some _ _).symm.trans H; with_reducible exact H2_) | with_reducible exact H | (rw [hy199]; exact H) | exact H
  have Ny199 := Aside0.mk hy199
  clear hy199
  simp only [Option.some.injEq, Prod.mk.injEq] at H
  obtain ⟨rfl, rfl, rfl⟩ := H
  go_enter Tryd.func21, Tryd.ntmps21
  go_wp2_with (first | ((with_reducible refine gate_dst (N := 0) rfl ?_); refine box_event ?hg (N := 0) ?hd (cs := #[.string (⟨#[]⟩ : ByteArray), .string (⟨#[]⟩ : ByteArray), .slice none 0 0]) (t := 24) ?hr ?_; (case hd => rfl); (case hg => rfl); (case hr => first | (go_simp; done) | (go_simp; rfl)); intro gb195 hg w1 hbox hb; have n0_ := Aside0.mk (below_step (by repeat (first | (with_reducible first | exact HB.out | apply below_alloc | apply pw_below_drewN | apply below_drew1) | exact HB.out)) hb); have n1_ := Aside0.mk (hbox); have n2_ := Aside0.mk ((by rw [hg]; exact (below_size (by repeat (first | (with_reducible first | exact HB.out | apply below_alloc | apply pw_below_drewN | apply below_drew1) | exact HB.out))) : w.heap.size ≤ gb195)); have n3_ := Aside0.mk ((by rw [hg]; exact (below_size (by repeat (first | (with_reducible first | exact HB.out | apply below_alloc | apply pw_below_drewN | apply below_drew1) | exact HB.out))) : w.heap.size ≤ gb195)); clear HB; have HB := n0_; have BK195 := n1_; have GW195 := n2_; have GE195 := n3_; clear n0_ n1_ n2_ n3_; clear hb hbox hg) | ((with_reducible refine gate_dst (N := 2) rfl ?_); refine Kd.R_lit k49 _ 49 ?hg (N := 2) ?hd (xs := ([(⟨(⟨#[116]⟩ : ByteArray), 1⟩ : S49)] : List (S49))) (inner := [.string (⟨#[116]⟩ : ByteArray), .int .i64 1]) (ok := fun _ => True) (okp := fun _ => True) ?hr ?hp (fun _ hk => hk) trivial (Below.refl _ _) (Nat.le_refl _) (by simp) ?_; (case hd => rfl); (case hg => rfl); (case hr => first | (go_simp; done) | (go_simp; rfl)); (case hp => exact (Reps.c2 (show Kd.M k49 _ _ _ (⟨(⟨#[116]⟩ : ByteArray), 1⟩ : S49) [.string (⟨#[116]⟩ : ByteArray), .int .i64 1] from (k49_mkM _ _ _ (⟨(⟨#[116]⟩ : ByteArray), 1⟩ : S49) )) (Reps.none _ _))); intro v197 w2 ho3 hb hg_ hnew_; clear hg_ hnew_; (first | rw [← Ny196.out] at ho3 | (simp only [Int.reduceToNat] at ho3; rw [← Ny196.out] at ho3)); have n0_ := Aside0.mk (Kd.R_lower (Kd.R_newM (M := fun k_ => (w.heap.size ≤ k_)) ho3 (below_size (by repeat (first | (with_reducible first | exact HB.out | apply below_alloc | apply pw_below_drewN | apply below_drew1 | refine below_set ?_ GE195.out) | exact HB.out))) (fun k_ h_ => h_)) (below_size (by repeat (first | (with_reducible first | exact HB.out | apply below_alloc | apply pw_below_drewN | apply below_drew1 | refine below_set ?_ GE195.out) | exact HB.out)))); have n1_ := Aside0.mk (blk_below (g := gb195) (o := .cells #[.string (⟨#[]⟩ : ByteArray), .string (⟨#[]⟩ : ByteArray), .slice none 0 0] 24 (0, 0)) (by (with_reducible repeat (first | refine blk_drewN ?_ _ | refine blk_drew ?_ | refine blk_alloc ?_ _)); exact BK195.out) hb); have n2_ := Aside0.mk (below_step (by repeat (first | (with_reducible first | exact HB.out | apply below_alloc | apply pw_below_drewN | apply below_drew1 | refine below_set ?_ GE195.out) | exact HB.out)) hb); clear BK195; clear HB; have HO198 := n0_; have BK195 := n1_; have HB := n2_; clear n0_ n1_ n2_; clear hb ho3; obtain ⟨Ao4, co4, eo4⟩ := Kd.R_slice HO198.out; subst eo4) | ((with_reducible refine gate_dst (N := 4) rfl ?_); refine Kd.N_lit k46 _ 46 ?hg (N' := 4) ?hd (xs := ([(⟨(⟨#[103]⟩ : ByteArray), y196⟩ : S46)] : List (S46))) (inner := [.string (⟨#[103]⟩ : ByteArray), .slice Ao4 y196.length co4]) (ok := (fun k_ => (w.heap.size ≤ k_) ∧ k_ ≠ gb195)) (okp := (fun k_ => (w.heap.size ≤ k_) ∧ k_ ≠ gb195)) ?hr ?hp (fun _ hk => hk) ((show ∀ k_, w2.heap.size ≤ k_ → (fun k_ => (w.heap.size ≤ k_) ∧ k_ ≠ gb195) k_ from fun k_ hk => ⟨(Nat.le_trans (below_size (by repeat (first | (with_reducible first | exact HB.out | apply below_alloc | apply pw_below_drewN | apply below_drew1 | refine below_set ?_ GE195.out) | exact HB.out))) hk), Kd.freshB (g := gb195) (o := .cells #[.string (⟨#[]⟩ : ByteArray), .string (⟨#[]⟩ : ByteArray), .slice none 0 0] 24 (0, 0)) (by (with_reducible repeat (first | refine blk_drewN ?_ _ | refine blk_drew ?_ | refine blk_alloc ?_ _)); exact BK195.out) k_ hk⟩) _ (Nat.le_refl _)) (Below.refl _ _) (Nat.le_refl _) (by simp) ?_; (case hd => rfl); (case hg => rfl); (case hr => first | (go_simp; done) | (go_simp; rfl)); (case hp => exact (Reps.c2 (show Kd.FK k46 _ _ (⟨(⟨#[103]⟩ : ByteArray), y196⟩ : S46) [.string (⟨#[103]⟩ : ByteArray), .slice Ao4 y196.length co4] from (k46_mkF _ _ (⟨(⟨#[103]⟩ : ByteArray), y196⟩ : S46) (Kd.R_reads' (Kd.R_mono (ok' := (fun k_ => (w.heap.size ≤ k_) ∧ k_ ≠ gb195)) (Kd.R_types (HO198.out) BK195.out (by decide)) (fun k_ hk => ⟨hk.1.1, hk.2⟩))).2.1 (Kd.R_F (Kd.R_mono (ok' := (fun k_ => (w.heap.size ≤ k_) ∧ k_ ≠ gb195)) (Kd.R_types (HO198.out) BK195.out (by decide)) (fun k_ hk => ⟨hk.1.1, hk.2⟩))))) (Reps.none _ _))); intro v200 w5 ho6 hb hg_ hnew_; clear hg_ hnew_; (first | rw [← Ny199.out] at ho6 | (simp only [Int.reduceToNat] at ho6; rw [← Ny199.out] at ho6)); have n0_ := Aside0.mk (Kd.N_lower ho6 (below_size (by repeat (first | (with_reducible first | exact HB.out | apply below_alloc | apply pw_below_drewN | apply below_drew1 | refine below_set ?_ GE195.out) | exact HB.out)))); have n1_ := Aside0.mk (blk_below (g := gb195) (o := .cells #[.string (⟨#[]⟩ : ByteArray), .string (⟨#[]⟩ : ByteArray), .slice none 0 0] 24 (0, 0)) (by (with_reducible repeat (first | refine blk_drewN ?_ _ | refine blk_drew ?_ | refine blk_alloc ?_ _)); exact BK195.out) hb); have n2_ := Aside0.mk (below_step (by repeat (first | (with_reducible first | exact HB.out | apply below_alloc | apply pw_below_drewN | apply below_drew1 | refine below_set ?_ GE195.out) | exact HB.out)) hb); clear BK195; clear HB; clear HO198; have HO201 := n0_; have BK195 := n1_; have HB := n2_; clear n0_ n1_ n2_; clear hb ho6; obtain ⟨Ao7, co7, eo7⟩ := Kd.N_slice HO201.out; subst eo7; have hcz8_0 : w5.cell? ⟨gb195, 0, none⟩ = some (.string (⟨#[]⟩ : ByteArray)) := (blk_cell BK195.out 0).trans rfl; have hcz8_1 : w5.cell? ⟨gb195, 1, none⟩ = some (.string (⟨#[]⟩ : ByteArray)) := (blk_cell BK195.out 1).trans rfl; have hcz8_2 : w5.cell? ⟨gb195, 2, none⟩ = some (.slice none 0 0) := (blk_cell BK195.out 2).trans rfl; have hfz8_0 := blk_frozen BK195.out 0; have hfz8_1 := blk_frozen BK195.out 1; have hfz8_2 := blk_frozen BK195.out 2))
  refine bodyPost_ret (results_cell_row rfl _ _ gb195 24 #[.string (⟨#[115]⟩ : ByteArray), .string (⟨#[98]⟩ : ByteArray), .slice Ao7 y199.length co7] (0, 0) _ rfl (by (with_reducible repeat (first | refine blk_drewN ?_ _ | refine blk_drew ?_ | refine blk_alloc ?_ _)); refine blk_put (cs := #[.string (⟨#[115]⟩ : ByteArray), .string (⟨#[98]⟩ : ByteArray), .slice none 0 0]) ?_ 2 _ rfl; (with_reducible repeat (first | refine blk_drewN ?_ _ | refine blk_drew ?_ | refine blk_alloc ?_ _)); refine blk_put (cs := #[.string (⟨#[115]⟩ : ByteArray), .string (⟨#[]⟩ : ByteArray), .slice none 0 0]) ?_ 1 _ rfl; (with_reducible repeat (first | refine blk_drewN ?_ _ | refine blk_drew ?_ | refine blk_alloc ?_ _)); refine blk_put (cs := #[.string (⟨#[]⟩ : ByteArray), .string (⟨#[]⟩ : ByteArray), .slice none 0 0]) ?_ 0 _ rfl; (with_reducible repeat (first | refine blk_drewN ?_ _ | refine blk_drew ?_ | refine blk_alloc ?_ _)); exact BK195.out) Tryd.underlying24 rfl (by kernel_rfl)) rfl ?_
  exact ⟨_, by first | rfl | (simp [errW_none, errW_some] <;> rfl) | (simp [*, errW_none, errW_some] <;> rfl), by (with_reducible repeat (first | apply Kd.N_alloc | apply Kd.N_drewN | apply Kd.N_drew)); exact Kd.N_mono (Kd.N_far (p := ⟨gb195, 2, none⟩) (Kd.N_far (p := ⟨gb195, 1, none⟩) (Kd.N_far (p := ⟨gb195, 0, none⟩) (Kd.N_mono HO201.out (fun k_ hk => (⟨hk, hk.2⟩ : _ ∧ k_ ≠ gb195))) (fun _ hk => hk.2) (.string (⟨#[115]⟩ : ByteArray))) (fun _ hk => hk.2) (.string (⟨#[98]⟩ : ByteArray))) (fun _ hk => hk.2) (.slice Ao7 y199.length co7)) (fun _ hk => hk.1.1), by repeat (first | (with_reducible first | exact HB.out | apply below_alloc | apply pw_below_drewN | apply below_drew1 | refine below_set ?_ GE195.out) | exact HB.out)⟩
end
section
attribute [local go_sem] max2_int min2_int max_two min_two max_three min_three max_four min_four   -- for this text's walks alone
theorem eqA49 (d : Nat) (w : World) (x0 y0 : ByteArray) (x1 y1 : Int) :
    (Op.equalIn (d + 2) 49 (.agg #[.string x0, .int .i64 x1]) (.agg #[.string y0, .int .i64 y1])).run Tryd.prog w = .ok (x0.toList == y0.toList && (x1 == y1)) w := by
  refine eqA_of Tryd.underlying49 (by kernel_rfl) ?_
  refine eqf_cons (by rfl) (by go_simp; rfl) (by go_simp; rfl) (by go_simp) ?_
  exact eqf_last (by rfl) (by go_simp; rfl) (by go_simp; rfl) (by go_simp)
end
section
attribute [local go_sem] max2_int min2_int max_two min_two max_three min_three max_four min_four   -- for this text's walks alone
attribute [local go_sem high] eqA49
mutual
def colloquyref20_Same.j0 : Nat → Bool → ByteArray → ByteArray → List (S53) → ByteArray → ByteArray → List (S53) → Option (Bool)
  | 0, _, _, _, _, _, _, _ => none
  | k + 1, x27, x185000, x185001, x185002, x186000, x186001, x186002 => if x27 = true then (some false) else (colloquyref20_Same.l0 k 0 x185000 x185001 x185002 x186000 x186001 x186002)
def colloquyref20_Same.l0 : Nat → Int → ByteArray → ByteArray → List (S53) → ByteArray → ByteArray → List (S53) → Option (Bool)
  | 0, _, _, _, _, _, _, _ => none
  | k + 1, x5, x185000, x185001, x185002, x186000, x186001, x186002 => if x5 < (x185002.length : Int) then (if 0 ≤ x5 then (if x5 < (x186002.length : Int) then (if ((rd_T53 x185002 x5).f0).toList = ((rd_T53 x186002 x5).f0).toList then (colloquyref20_Same.j2 k x5 ((((rd_T53 x185002 x5).f1).length : Int) != (((rd_T53 x186002 x5).f1).length : Int)) x185000 x185001 x185002 x186000 x186001 x186002) else (colloquyref20_Same.j2 k x5 true x185000 x185001 x185002 x186000 x186001 x186002)) else (none)) else (none)) else (some true)
def colloquyref20_Same.j2 : Nat → Int → Bool → ByteArray → ByteArray → List (S53) → ByteArray → ByteArray → List (S53) → Option (Bool)
  | 0, _, _, _, _, _, _, _, _ => none
  | k + 1, x5, x64, x185000, x185001, x185002, x186000, x186001, x186002 => if x64 = true then (some false) else (colloquyref20_Same.l1 k x5 0 x185000 x185001 x185002 x186000 x186001 x186002)
def colloquyref20_Same.l1 : Nat → Int → Int → ByteArray → ByteArray → List (S53) → ByteArray → ByteArray → List (S53) → Option (Bool)
  | 0, _, _, _, _, _, _, _, _ => none
  | k + 1, x5, x6, x185000, x185001, x185002, x186000, x186001, x186002 => if 0 ≤ x5 then (if x5 < (x185002.length : Int) then (if x6 < (((rd_T53 x185002 x5).f1).length : Int) then (if 0 ≤ x6 then (if x5 < (x186002.length : Int) then (if x6 < (((rd_T53 x186002 x5).f1).length : Int) then (if (!((((rd_T49 ((rd_T53 x185002 x5).f1) x6).f0).toList) == (((rd_T49 ((rd_T53 x186002 x5).f1) x6).f0).toList)) || (!(((rd_T49 ((rd_T53 x185002 x5).f1) x6).f1) == ((rd_T49 ((rd_T53 x186002 x5).f1) x6).f1)))) = true then (some false) else (colloquyref20_Same.l1 k x5 (wrap64 (x6 + 1)) x185000 x185001 x185002 x186000 x186001 x186002)) else (none)) else (none)) else (none)) else (colloquyref20_Same.l0 k (wrap64 (x5 + 1)) x185000 x185001 x185002 x186000 x186001 x186002)) else (none)) else (none)
end
def colloquyref20_Same.f (k : Nat) (a0_0 : ByteArray) (a0_1 : ByteArray) (l0_2 : List (S53)) (a1_0 : ByteArray) (a1_1 : ByteArray) (l1_2 : List (S53)) : Option (Bool) := if a0_0.toList = a1_0.toList then (if a0_1.toList = a1_1.toList then (colloquyref20_Same.j0 k ((l0_2.length : Int) != (l1_2.length : Int)) a0_0 a0_1 l0_2 a1_0 a1_1 l1_2) else (colloquyref20_Same.j0 k true a0_0 a0_1 l0_2 a1_0 a1_1 l1_2)) else (colloquyref20_Same.j0 k true a0_0 a0_1 l0_2 a1_0 a1_1 l1_2)
theorem colloquyref20_Same.mono_l : ∀ k, (∀ y0 y1 y2 y3 y4 y5 y6, LeO (colloquyref20_Same.j0 k y0 y1 y2 y3 y4 y5 y6) (colloquyref20_Same.j0 (k + 1) y0 y1 y2 y3 y4 y5 y6)) ∧ (∀ y0 y1 y2 y3 y4 y5 y6, LeO (colloquyref20_Same.l0 k y0 y1 y2 y3 y4 y5 y6) (colloquyref20_Same.l0 (k + 1) y0 y1 y2 y3 y4 y5 y6)) ∧ (∀ y0 y1 y2 y3 y4 y5 y6 y7, LeO (colloquyref20_Same.j2 k y0 y1 y2 y3 y4 y5 y6 y7) (colloquyref20_Same.j2 (k + 1) y0 y1 y2 y3 y4 y5 y6 y7)) ∧ (∀ y0 y1 y2 y3 y4 y5 y6 y7, LeO (colloquyref20_Same.l1 k y0 y1 y2 y3 y4 y5 y6 y7) (colloquyref20_Same.l1 (k + 1) y0 y1 y2 y3 y4 y5 y6 y7))
  | 0 => ⟨fun _ _ _ _ _ _ _ r h => by simp [colloquyref20_Same.j0] at h, fun _ _ _ _ _ _ _ r h => by simp [colloquyref20_Same.l0] at h, fun _ _ _ _ _ _ _ _ r h => by simp [colloquyref20_Same.j2] at h, fun _ _ _ _ _ _ _ _ r h => by simp [colloquyref20_Same.l1] at h⟩
  | k + 1 => by
    obtain ⟨ih0, ih1, ih2, ih3⟩ := colloquyref20_Same.mono_l k
    refine ⟨?_, ?_, ?_, ?_⟩
    · intro y0 y1 y2 y3 y4 y5 y6
      unfold colloquyref20_Same.j0
      repeat' first
      | (with_reducible exact ih0 _ _ _ _ _ _ _)
      | (with_reducible exact ih1 _ _ _ _ _ _ _)
      | (with_reducible exact ih2 _ _ _ _ _ _ _ _)
      | (with_reducible exact ih3 _ _ _ _ _ _ _ _)
      | (with_reducible exact LeO.refl _)
      | (with_reducible exact LeO.none _)
      | (with_reducible refine LeO.ite ?_ ?_)
      | (with_reducible refine LeO.bind ?_ (fun _ => ?_))
      | exact ih0 _ _ _ _ _ _ _
      | exact ih1 _ _ _ _ _ _ _
      | exact ih2 _ _ _ _ _ _ _ _
      | exact ih3 _ _ _ _ _ _ _ _
      | exact LeO.none _
      | refine LeO.ite ?_ ?_
      | refine LeO.bind ?_ (fun _ => ?_)
    · intro y0 y1 y2 y3 y4 y5 y6
      unfold colloquyref20_Same.l0
      repeat' first
      | (with_reducible exact ih0 _ _ _ _ _ _ _)
      | (with_reducible exact ih1 _ _ _ _ _ _ _)
      | (with_reducible exact ih2 _ _ _ _ _ _ _ _)
      | (with_reducible exact ih3 _ _ _ _ _ _ _ _)
      | (with_reducible exact LeO.refl _)
      | (with_reducible exact LeO.none _)
      | (with_reducible refine LeO.ite ?_ ?_)
      | (with_reducible refine LeO.bind ?_ (fun _ => ?_))
      | exact ih0 _ _ _ _ _ _ _
      | exact ih1 _ _ _ _ _ _ _
      | exact ih2 _ _ _ _ _ _ _ _
      | exact ih3 _ _ _ _ _ _ _ _
      | exact LeO.none _
      | refine LeO.ite ?_ ?_
      | refine LeO.bind ?_ (fun _ => ?_)
    · intro y0 y1 y2 y3 y4 y5 y6 y7
      unfold colloquyref20_Same.j2
      repeat' first
      | (with_reducible exact ih0 _ _ _ _ _ _ _)
      | (with_reducible exact ih1 _ _ _ _ _ _ _)
      | (with_reducible exact ih2 _ _ _ _ _ _ _ _)
      | (with_reducible exact ih3 _ _ _ _ _ _ _ _)
      | (with_reducible exact LeO.refl _)
      | (with_reducible exact LeO.none _)
      | (with_reducible refine LeO.ite ?_ ?_)
      | (with_reducible refine LeO.bind ?_ (fun _ => ?_))
      | exact ih0 _ _ _ _ _ _ _
      | exact ih1 _ _ _ _ _ _ _
      | exact ih2 _ _ _ _ _ _ _ _
      | exact ih3 _ _ _ _ _ _ _ _
      | exact LeO.none _
      | refine LeO.ite ?_ ?_
      | refine LeO.bind ?_ (fun _ => ?_)
    · intro y0 y1 y2 y3 y4 y5 y6 y7
      unfold colloquyref20_Same.l1
      repeat' first
      | (with_reducible exact ih0 _ _ _ _ _ _ _)
      | (with_reducible exact ih1 _ _ _ _ _ _ _)
      | (with_reducible exact ih2 _ _ _ _ _ _ _ _)
      | (with_reducible exact ih3 _ _ _ _ _ _ _ _)
      | (with_reducible exact LeO.refl _)
      | (with_reducible exact LeO.none _)
      | (with_reducible refine LeO.ite ?_ ?_)
      | (with_reducible refine LeO.bind ?_ (fun _ => ?_))
      | exact ih0 _ _ _ _ _ _ _
      | exact ih1 _ _ _ _ _ _ _
      | exact ih2 _ _ _ _ _ _ _ _
      | exact ih3 _ _ _ _ _ _ _ _
      | exact LeO.none _
      | refine LeO.ite ?_ ?_
      | refine LeO.bind ?_ (fun _ => ?_)
theorem colloquyref20_Same.mono : ∀ a0 a1 a2 a3 a4 a5 k, LeO (colloquyref20_Same.f k a0 a1 a2 a3 a4 a5) (colloquyref20_Same.f (k + 1) a0 a1 a2 a3 a4 a5) := by
  intro a0 a1 a2 a3 a4 a5 k
  obtain ⟨ih0, ih1, ih2, ih3⟩ := colloquyref20_Same.mono_l k
  unfold colloquyref20_Same.f
  repeat' first
      | (with_reducible exact ih0 _ _ _ _ _ _ _)
      | (with_reducible exact ih1 _ _ _ _ _ _ _)
      | (with_reducible exact ih2 _ _ _ _ _ _ _ _)
      | (with_reducible exact ih3 _ _ _ _ _ _ _ _)
      | (with_reducible exact LeO.refl _)
      | (with_reducible exact LeO.none _)
      | (with_reducible refine LeO.ite ?_ ?_)
      | (with_reducible refine LeO.bind ?_ (fun _ => ?_))
      | exact ih0 _ _ _ _ _ _ _
      | exact ih1 _ _ _ _ _ _ _
      | exact ih2 _ _ _ _ _ _ _ _
      | exact ih3 _ _ _ _ _ _ _ _
      | exact LeO.none _
      | refine LeO.ite ?_ ?_
      | refine LeO.bind ?_ (fun _ => ?_)
theorem colloquyref20_Same.calls (k : Nat) (a0_0 : ByteArray) (a0_1 : ByteArray) (A0_2 : Option Addr) (c0_2 : Nat) (l0_2 : List (S53)) (a1_0 : ByteArray) (a1_1 : ByteArray) (A1_2 : Option Addr) (c1_2 : Nat) (l1_2 : List (S53)) (r : Bool) (w : World) (hr0_2 : Kd.C k53 w A0_2 l0_2.length l0_2) (hc0_2 : l0_2.length ≤ c0_2) (hr1_2 : Kd.C k53 w A1_2 l1_2.length l1_2) (hc1_2 : l1_2.length ≤ c1_2) (h : colloquyref20_Same.f k a0_0 a0_1 l0_2 a1_0 a1_1 l1_2 = some r) :
    Calls Tryd.prog 20 #[.agg #[.string a0_0, .string a0_1, .slice A0_2 l0_2.length c0_2], .agg #[.string a1_0, .string a1_1, .slice A1_2 l1_2.length c1_2]] w fun e w' => e = .returned (.bool r) ∧ Below w.heap.size w w' := by
  have hu29 := Tryd.underlying29
  have hu49 := Tryd.underlying49
  have HR0_2 := Aside0.mk hr0_2
  have HC0_2 := Aside0.mk hc0_2
  clear hr0_2 hc0_2
  have HR1_2 := Aside0.mk hr1_2
  have HC1_2 := Aside0.mk hc1_2
  clear hr1_2 hc1_2
  have HB := Aside0.mk (Below.refl w.heap.size w)
  have H : (if a0_0.toList = a1_0.toList then (if a0_1.toList = a1_1.toList then (colloquyref20_Same.j0 k ((l0_2.length : Int) != (l1_2.length : Int)) a0_0 a0_1 l0_2 a1_0 a1_1 l1_2) else (colloquyref20_Same.j0 k true a0_0 a0_1 l0_2 a1_0 a1_1 l1_2)) else (colloquyref20_Same.j0 k true a0_0 a0_1 l0_2 a1_0 a1_1 l1_2)) = some r := h
  clear h
  have HC3 := Aside0.mk H
  clear H
  go_enter Tryd.func20, Tryd.ntmps20
  go_upto_region 1 with (first | ((with_reducible refine gate_dst (N := 2) rfl ?_); (try (refine gate_guard (by rfl) ?_; dsimp only)); refine box_event ?hg (N := 2) ?hd (cs := #[.string a0_0, .string a0_1, .slice A0_2 l0_2.length c0_2]) (t := 29) ?hr ?_; (case hd => rfl); (case hg => rfl); (case hr => first | (go_simp; done) | (go_simp; rfl)); intro gb184 hg w4 hbox hb; have n0_ := Aside0.mk (below_step (by repeat (first | (with_reducible first | exact HB.out | apply below_alloc | apply pw_below_drewN | apply below_drew1) | exact HB.out)) hb); have n1_ := Aside0.mk (hbox); have n2_ := Aside0.mk ((by rw [hg]; exact (below_size (by repeat (first | (with_reducible first | exact HB.out | apply below_alloc | apply pw_below_drewN | apply below_drew1) | exact HB.out))) : w.heap.size ≤ gb184)); have n3_ := Aside0.mk ((by rw [hg]; exact (below_size (by repeat (first | (with_reducible first | exact HB.out | apply below_alloc | apply pw_below_drewN | apply below_drew1) | exact HB.out))) : w.heap.size ≤ gb184)); clear HB; have HB := n0_; have BK184 := n1_; have GW184 := n2_; have GE184 := n3_; clear n0_ n1_ n2_ n3_; clear hb hbox hg) | ((with_reducible refine gate_dst (N := 3) rfl ?_); (try (refine gate_guard (by rfl) ?_; dsimp only)); refine box_event ?hg (N := 3) ?hd (cs := #[.string a1_0, .string a1_1, .slice A1_2 l1_2.length c1_2]) (t := 29) ?hr ?_; (case hd => rfl); (case hg => rfl); (case hr => first | (go_simp; done) | (go_simp; rfl)); intro gb185 hg w5 hbox hb; have n0_ := Aside0.mk (blk_below (g := gb184) (o := .cells #[.string a0_0, .string a0_1, .slice A0_2 l0_2.length c0_2] 29 (0, 0)) (by (with_reducible repeat (first | refine blk_drewN ?_ _ | refine blk_drew ?_ | refine blk_alloc ?_ _)); exact BK184.out) hb); have n1_ := Aside0.mk (below_step (by repeat (first | (with_reducible first | exact HB.out | apply below_alloc | apply pw_below_drewN | apply below_drew1 | refine below_set ?_ GE184.out) | exact HB.out)) hb); have n2_ := Aside0.mk (hbox); have n3_ := Aside0.mk ((by rw [hg]; exact (below_size (by repeat (first | (with_reducible first | exact HB.out | apply below_alloc | apply pw_below_drewN | apply below_drew1 | refine below_set ?_ GE184.out) | exact HB.out))) : w.heap.size ≤ gb185)); have n4_ := Aside0.mk ((by rw [hg]; exact (below_size (by repeat (first | (with_reducible first | exact HB.out | apply below_alloc | apply pw_below_drewN | apply below_drew1 | refine below_set ?_ GE184.out) | exact HB.out))) : w.heap.size ≤ gb185)); have n5_ := Aside0.mk ((by rw [hg]; exact Nat.ne_of_lt (blk_lt (g := gb184) (o := .cells #[.string a0_0, .string a0_1, .slice A0_2 l0_2.length c0_2] 29 (0, 0)) (by (with_reducible repeat (first | refine blk_drewN ?_ _ | refine blk_drew ?_ | refine blk_alloc ?_ _)); exact BK184.out)) : gb184 ≠ gb185)); have n6_ := Aside0.mk ((by rw [hg]; exact Nat.ne_of_gt (blk_lt (g := gb184) (o := .cells #[.string a0_0, .string a0_1, .slice A0_2 l0_2.length c0_2] 29 (0, 0)) (by (with_reducible repeat (first | refine blk_drewN ?_ _ | refine blk_drew ?_ | refine blk_alloc ?_ _)); exact BK184.out)) : gb185 ≠ gb184)); clear BK184; clear HB; have BK184 := n0_; have HB := n1_; have BK185 := n2_; have GW185 := n3_; have GE185 := n4_; have NB184_185 := n5_; have NB185_184 := n6_; clear n0_ n1_ n2_ n3_ n4_ n5_ n6_; clear hb hbox hg))
  repeat (go_quiet (first | ((with_reducible refine gate_dst (N := 2) rfl ?_); (try (refine gate_guard (by rfl) ?_; dsimp only)); refine box_event ?hg (N := 2) ?hd (cs := #[.string a0_0, .string a0_1, .slice A0_2 l0_2.length c0_2]) (t := 29) ?hr ?_; (case hd => rfl); (case hg => rfl); (case hr => first | (go_simp; done) | (go_simp; rfl)); intro gb184 hg w4 hbox hb; have n0_ := Aside0.mk (below_step (by repeat (first | (with_reducible first | exact HB.out | apply below_alloc | apply pw_below_drewN | apply below_drew1) | exact HB.out)) hb); have n1_ := Aside0.mk (hbox); have n2_ := Aside0.mk ((by rw [hg]; exact (below_size (by repeat (first | (with_reducible first | exact HB.out | apply below_alloc | apply pw_below_drewN | apply below_drew1) | exact HB.out))) : w.heap.size ≤ gb184)); have n3_ := Aside0.mk ((by rw [hg]; exact (below_size (by repeat (first | (with_reducible first | exact HB.out | apply below_alloc | apply pw_below_drewN | apply below_drew1) | exact HB.out))) : w.heap.size ≤ gb184)); clear HB; have HB := n0_; have BK184 := n1_; have GW184 := n2_; have GE184 := n3_; clear n0_ n1_ n2_ n3_; clear hb hbox hg) | ((with_reducible refine gate_dst (N := 3) rfl ?_); (try (refine gate_guard (by rfl) ?_; dsimp only)); refine box_event ?hg (N := 3) ?hd (cs := #[.string a1_0, .string a1_1, .slice A1_2 l1_2.length c1_2]) (t := 29) ?hr ?_; (case hd => rfl); (case hg => rfl); (case hr => first | (go_simp; done) | (go_simp; rfl)); intro gb185 hg w5 hbox hb; have n0_ := Aside0.mk (blk_below (g := gb184) (o := .cells #[.string a0_0, .string a0_1, .slice A0_2 l0_2.length c0_2] 29 (0, 0)) (by (with_reducible repeat (first | refine blk_drewN ?_ _ | refine blk_drew ?_ | refine blk_alloc ?_ _)); exact BK184.out) hb); have n1_ := Aside0.mk (below_step (by repeat (first | (with_reducible first | exact HB.out | apply below_alloc | apply pw_below_drewN | apply below_drew1 | refine below_set ?_ GE184.out) | exact HB.out)) hb); have n2_ := Aside0.mk (hbox); have n3_ := Aside0.mk ((by rw [hg]; exact (below_size (by repeat (first | (with_reducible first | exact HB.out | apply below_alloc | apply pw_below_drewN | apply below_drew1 | refine below_set ?_ GE184.out) | exact HB.out))) : w.heap.size ≤ gb185)); have n4_ := Aside0.mk ((by rw [hg]; exact (below_size (by repeat (first | (with_reducible first | exact HB.out | apply below_alloc | apply pw_below_drewN | apply below_drew1 | refine below_set ?_ GE184.out) | exact HB.out))) : w.heap.size ≤ gb185)); have n5_ := Aside0.mk ((by rw [hg]; exact Nat.ne_of_lt (blk_lt (g := gb184) (o := .cells #[.string a0_0, .string a0_1, .slice A0_2 l0_2.length c0_2] 29 (0, 0)) (by (with_reducible repeat (first | refine blk_drewN ?_ _ | refine blk_drew ?_ | refine blk_alloc ?_ _)); exact BK184.out)) : gb184 ≠ gb185)); have n6_ := Aside0.mk ((by rw [hg]; exact Nat.ne_of_gt (blk_lt (g := gb184) (o := .cells #[.string a0_0, .string a0_1, .slice A0_2 l0_2.length c0_2] 29 (0, 0)) (by (with_reducible repeat (first | refine blk_drewN ?_ _ | refine blk_drew ?_ | refine blk_alloc ?_ _)); exact BK184.out)) : gb185 ≠ gb184)); clear BK184; clear HB; have BK184 := n0_; have HB := n1_; have BK185 := n2_; have GW185 := n3_; have GE185 := n4_; have NB184_185 := n5_; have NB185_184 := n6_; clear n0_ n1_ n2_ n3_ n4_ n5_ n6_; clear hb hbox hg)); go_upto_region 1 with (first | ((with_reducible refine gate_dst (N := 2) rfl ?_); (try (refine gate_guard (by rfl) ?_; dsimp only)); refine box_event ?hg (N := 2) ?hd (cs := #[.string a0_0, .string a0_1, .slice A0_2 l0_2.length c0_2]) (t := 29) ?hr ?_; (case hd => rfl); (case hg => rfl); (case hr => first | (go_simp; done) | (go_simp; rfl)); intro gb184 hg w4 hbox hb; have n0_ := Aside0.mk (below_step (by repeat (first | (with_reducible first | exact HB.out | apply below_alloc | apply pw_below_drewN | apply below_drew1) | exact HB.out)) hb); have n1_ := Aside0.mk (hbox); have n2_ := Aside0.mk ((by rw [hg]; exact (below_size (by repeat (first | (with_reducible first | exact HB.out | apply below_alloc | apply pw_below_drewN | apply below_drew1) | exact HB.out))) : w.heap.size ≤ gb184)); have n3_ := Aside0.mk ((by rw [hg]; exact (below_size (by repeat (first | (with_reducible first | exact HB.out | apply below_alloc | apply pw_below_drewN | apply below_drew1) | exact HB.out))) : w.heap.size ≤ gb184)); clear HB; have HB := n0_; have BK184 := n1_; have GW184 := n2_; have GE184 := n3_; clear n0_ n1_ n2_ n3_; clear hb hbox hg) | ((with_reducible refine gate_dst (N := 3) rfl ?_); (try (refine gate_guard (by rfl) ?_; dsimp only)); refine box_event ?hg (N := 3) ?hd (cs := #[.string a1_0, .string a1_1, .slice A1_2 l1_2.length c1_2]) (t := 29) ?hr ?_; (case hd => rfl); (case hg => rfl); (case hr => first | (go_simp; done) | (go_simp; rfl)); intro gb185 hg w5 hbox hb; have n0_ := Aside0.mk (blk_below (g := gb184) (o := .cells #[.string a0_0, .string a0_1, .slice A0_2 l0_2.length c0_2] 29 (0, 0)) (by (with_reducible repeat (first | refine blk_drewN ?_ _ | refine blk_drew ?_ | refine blk_alloc ?_ _)); exact BK184.out) hb); have n1_ := Aside0.mk (below_step (by repeat (first | (with_reducible first | exact HB.out | apply below_alloc | apply pw_below_drewN | apply below_drew1 | refine below_set ?_ GE184.out) | exact HB.out)) hb); have n2_ := Aside0.mk (hbox); have n3_ := Aside0.mk ((by rw [hg]; exact (below_size (by repeat (first | (with_reducible first | exact HB.out | apply below_alloc | apply pw_below_drewN | apply below_drew1 | refine below_set ?_ GE184.out) | exact HB.out))) : w.heap.size ≤ gb185)); have n4_ := Aside0.mk ((by rw [hg]; exact (below_size (by repeat (first | (with_reducible first | exact HB.out | apply below_alloc | apply pw_below_drewN | apply below_drew1 | refine below_set ?_ GE184.out) | exact HB.out))) : w.heap.size ≤ gb185)); have n5_ := Aside0.mk ((by rw [hg]; exact Nat.ne_of_lt (blk_lt (g := gb184) (o := .cells #[.string a0_0, .string a0_1, .slice A0_2 l0_2.length c0_2] 29 (0, 0)) (by (with_reducible repeat (first | refine blk_drewN ?_ _ | refine blk_drew ?_ | refine blk_alloc ?_ _)); exact BK184.out)) : gb184 ≠ gb185)); have n6_ := Aside0.mk ((by rw [hg]; exact Nat.ne_of_gt (blk_lt (g := gb184) (o := .cells #[.string a0_0, .string a0_1, .slice A0_2 l0_2.length c0_2] 29 (0, 0)) (by (with_reducible repeat (first | refine blk_drewN ?_ _ | refine blk_drew ?_ | refine blk_alloc ?_ _)); exact BK184.out)) : gb185 ≠ gb184)); clear BK184; clear HB; have BK184 := n0_; have HB := n1_; have BK185 := n2_; have GW185 := n3_; have GE185 := n4_; have NB184_185 := n5_; have NB185_184 := n6_; clear n0_ n1_ n2_ n3_ n4_ n5_ n6_; clear hb hbox hg)))
  (try simp only [Act.put, List.setIfInBounds_toArray, List.set_cons_zero, List.set_cons_succ])
  go_cut [27] (fun v27 wc => ∃ (kq : Nat) (x27_2 : Bool), v27 = .bool x27_2 ∧ Aside0 (colloquyref20_Same.j0 kq x27_2 a0_0 a0_1 l0_2 a1_0 a1_1 l1_2 = some r) ∧ Aside0 (kq ≤ k) ∧ Aside0 (wc.heap[gb184]? = some (.cells #[.string a0_0, .string a0_1, (.slice A0_2 l0_2.length c0_2)] 29 (0, 0))) ∧ Aside0 (wc.heap[gb185]? = some (.cells #[.string a1_0, .string a1_1, (.slice A1_2 l1_2.length c1_2)] 29 (0, 0))) ∧ Aside0 (Below w.heap.size w wc))
  case first =>
    have H := HC3.out
    clear HC3
    by_cases c6 : a0_0.toList = a1_0.toList
    · rw [if_pos c6] at H
      have c6b0 : (a0_0.toList == a1_0.toList) = true := beq_iff_eq.mpr c6
      have c6b1 : (a0_0.toList != a1_0.toList) = false := bne_eq_false_iff_eq.mpr c6
      clear c6
      (first | rw [c6b0] | rw [c6b1] | (simp only [i64_w, i32_w]; rw [c6b0]) | skip)
      by_cases c7 : a0_1.toList = a1_1.toList
      · rw [if_pos c7] at H
        have c7b0 : (a0_1.toList == a1_1.toList) = true := beq_iff_eq.mpr c7
        have c7b1 : (a0_1.toList != a1_1.toList) = false := bne_eq_false_iff_eq.mpr c7
        clear c7
        have H' := Aside0.mk H
        clear H
        have hnb8 := NB184_185.out
        have hnc8 := NB185_184.out
        have hcz9_0 : w5.cell? ⟨gb184, 0, none⟩ = some (.string a0_0) := (blk_cell BK184.out 0).trans rfl
        have hcz9_1 : w5.cell? ⟨gb184, 1, none⟩ = some (.string a0_1) := (blk_cell BK184.out 1).trans rfl
        have hcz9_2 : w5.cell? ⟨gb184, 2, none⟩ = some (.slice A0_2 l0_2.length c0_2) := (blk_cell BK184.out 2).trans rfl
        have hfz9_0 := blk_frozen BK184.out 0
        have hfz9_1 := blk_frozen BK184.out 1
        have hfz9_2 := blk_frozen BK184.out 2
        have hcz10_0 : w5.cell? ⟨gb185, 0, none⟩ = some (.string a1_0) := (blk_cell BK185.out 0).trans rfl
        have hcz10_1 : w5.cell? ⟨gb185, 1, none⟩ = some (.string a1_1) := (blk_cell BK185.out 1).trans rfl
        have hcz10_2 : w5.cell? ⟨gb185, 2, none⟩ = some (.slice A1_2 l1_2.length c1_2) := (blk_cell BK185.out 2).trans rfl
        have hfz10_0 := blk_frozen BK185.out 0
        have hfz10_1 := blk_frozen BK185.out 1
        have hfz10_2 := blk_frozen BK185.out 2
        go_wp2
        repeat (go_quiet (fail); try go_wp2)
        go_meet
        case rel => exact ⟨_, (((l0_2.length : Int) != (l1_2.length : Int))), (by first | rfl | (simp; done) | (simp [*]; done)), H', ⟨by first | omega | exact Nat.le_refl _⟩, ⟨by (with_reducible repeat (first | refine blk_drewN ?_ _ | refine blk_drew ?_ | refine blk_alloc ?_ _)); exact BK184.out⟩, ⟨by (with_reducible repeat (first | refine blk_drewN ?_ _ | refine blk_drew ?_ | refine blk_alloc ?_ _)); exact BK185.out⟩, ⟨by repeat (first | (with_reducible first | exact HB.out | apply below_alloc | apply pw_below_drewN | apply below_drew1 | refine below_set ?_ GE184.out | refine below_set ?_ GE185.out) | exact HB.out)⟩⟩
      · rw [if_neg c7] at H
        have c7b0 : (a0_1.toList == a1_1.toList) = false := beq_eq_false_iff_ne.mpr c7
        have c7b1 : (a0_1.toList != a1_1.toList) = true := bne_iff_ne.mpr c7
        have H' := Aside0.mk H
        clear H
        have hnb11 := NB184_185.out
        have hnc11 := NB185_184.out
        have hcz12_0 : w5.cell? ⟨gb184, 0, none⟩ = some (.string a0_0) := (blk_cell BK184.out 0).trans rfl
        have hcz12_1 : w5.cell? ⟨gb184, 1, none⟩ = some (.string a0_1) := (blk_cell BK184.out 1).trans rfl
        have hcz12_2 : w5.cell? ⟨gb184, 2, none⟩ = some (.slice A0_2 l0_2.length c0_2) := (blk_cell BK184.out 2).trans rfl
        have hfz12_0 := blk_frozen BK184.out 0
        have hfz12_1 := blk_frozen BK184.out 1
        have hfz12_2 := blk_frozen BK184.out 2
        have hcz13_0 : w5.cell? ⟨gb185, 0, none⟩ = some (.string a1_0) := (blk_cell BK185.out 0).trans rfl
        have hcz13_1 : w5.cell? ⟨gb185, 1, none⟩ = some (.string a1_1) := (blk_cell BK185.out 1).trans rfl
        have hcz13_2 : w5.cell? ⟨gb185, 2, none⟩ = some (.slice A1_2 l1_2.length c1_2) := (blk_cell BK185.out 2).trans rfl
        have hfz13_0 := blk_frozen BK185.out 0
        have hfz13_1 := blk_frozen BK185.out 1
        have hfz13_2 := blk_frozen BK185.out 2
        go_wp2
        repeat (go_quiet (fail); try go_wp2)
        go_meet
        case rel => exact ⟨_, (true), (by first | rfl | (simp; done) | (simp [*]; done)), H', ⟨by first | omega | exact Nat.le_refl _⟩, ⟨by (with_reducible repeat (first | refine blk_drewN ?_ _ | refine blk_drew ?_ | refine blk_alloc ?_ _)); exact BK184.out⟩, ⟨by (with_reducible repeat (first | refine blk_drewN ?_ _ | refine blk_drew ?_ | refine blk_alloc ?_ _)); exact BK185.out⟩, ⟨by repeat (first | (with_reducible first | exact HB.out | apply below_alloc | apply pw_below_drewN | apply below_drew1 | refine below_set ?_ GE184.out | refine below_set ?_ GE185.out) | exact HB.out)⟩⟩
    · rw [if_neg c6] at H
      have c6b0 : (a0_0.toList == a1_0.toList) = false := beq_eq_false_iff_ne.mpr c6
      have c6b1 : (a0_0.toList != a1_0.toList) = true := bne_iff_ne.mpr c6
      (first | rw [c6b0] | rw [c6b1] | (simp only [i64_w, i32_w]; rw [c6b0]) | skip)
      have H' := Aside0.mk H
      clear H
      have hnb14 := NB184_185.out
      have hnc14 := NB185_184.out
      have hcz15_0 : w5.cell? ⟨gb184, 0, none⟩ = some (.string a0_0) := (blk_cell BK184.out 0).trans rfl
      have hcz15_1 : w5.cell? ⟨gb184, 1, none⟩ = some (.string a0_1) := (blk_cell BK184.out 1).trans rfl
      have hcz15_2 : w5.cell? ⟨gb184, 2, none⟩ = some (.slice A0_2 l0_2.length c0_2) := (blk_cell BK184.out 2).trans rfl
      have hfz15_0 := blk_frozen BK184.out 0
      have hfz15_1 := blk_frozen BK184.out 1
      have hfz15_2 := blk_frozen BK184.out 2
      have hcz16_0 : w5.cell? ⟨gb185, 0, none⟩ = some (.string a1_0) := (blk_cell BK185.out 0).trans rfl
      have hcz16_1 : w5.cell? ⟨gb185, 1, none⟩ = some (.string a1_1) := (blk_cell BK185.out 1).trans rfl
      have hcz16_2 : w5.cell? ⟨gb185, 2, none⟩ = some (.slice A1_2 l1_2.length c1_2) := (blk_cell BK185.out 2).trans rfl
      have hfz16_0 := blk_frozen BK185.out 0
      have hfz16_1 := blk_frozen BK185.out 1
      have hfz16_2 := blk_frozen BK185.out 2
      go_wp2
      repeat (go_quiet (fail); try go_wp2)
      go_meet
      case rel => exact ⟨_, (true), (by first | rfl | (simp; done) | (simp [*]; done)), H', ⟨by first | omega | exact Nat.le_refl _⟩, ⟨by (with_reducible repeat (first | refine blk_drewN ?_ _ | refine blk_drew ?_ | refine blk_alloc ?_ _)); exact BK184.out⟩, ⟨by (with_reducible repeat (first | refine blk_drewN ?_ _ | refine blk_drew ?_ | refine blk_alloc ?_ _)); exact BK185.out⟩, ⟨by repeat (first | (with_reducible first | exact HB.out | apply below_alloc | apply pw_below_drewN | apply below_drew1 | refine below_set ?_ GE184.out | refine below_set ?_ GE185.out) | exact HB.out)⟩⟩
  case rest =>
    clear HC3
    try clear c1
    try clear c2
    try clear p2
    try clear c6
    try clear c6b0
    try clear c6b1
    try clear c7
    try clear c7b0
    try clear c7b1
    try clear c8
    try clear c11
    try clear c14
    try clear hcz10_0
    try clear hcz10_1
    try clear hcz10_2
    try clear hcz12_0
    try clear hcz12_1
    try clear hcz12_2
    try clear hcz13_0
    try clear hcz13_1
    try clear hcz13_2
    try clear hcz15_0
    try clear hcz15_1
    try clear hcz15_2
    try clear hcz16_0
    try clear hcz16_1
    try clear hcz16_2
    try clear hcz9_0
    try clear hcz9_1
    try clear hcz9_2
    try clear hfz10_0
    try clear hfz10_1
    try clear hfz10_2
    try clear hfz12_0
    try clear hfz12_1
    try clear hfz12_2
    try clear hfz13_0
    try clear hfz13_1
    try clear hfz13_2
    try clear hfz15_0
    try clear hfz15_1
    try clear hfz15_2
    try clear hfz16_0
    try clear hfz16_1
    try clear hfz16_2
    try clear hfz9_0
    try clear hfz9_1
    try clear hfz9_2
    obtain ⟨kq, x27_2, rfl, HA, HJ2, BK184, BK185, HB⟩ := hcut
    cases kq with
    | zero => exact absurd HA.out (by simp [colloquyref20_Same.j0])
    | succ kj2 =>
      have H := HA.out
      clear HA
      simp only [colloquyref20_Same.j0] at H
      by_cases c17 : x27_2 = true
      · subst c17
        have H1 : (some false) = some r := by rw [if_pos rfl] at H; exact H
        clear H
        have H := H1
        clear H1
        obtain rfl := Option.some.inj H
        go_wp2
        repeat (go_quiet (fail); try go_wp2)
        go_ret
        exact ⟨by first | rfl | (simp [errW_none, errW_some] <;> rfl) | (simp [*, errW_none, errW_some] <;> rfl), by repeat (first | (with_reducible first | exact HB.out | apply below_alloc | apply pw_below_drewN | apply below_drew1 | refine below_set ?_ GE184.out | refine below_set ?_ GE185.out) | exact HB.out)⟩
      · replace c17 := Bool.eq_false_iff.mpr c17
        subst c17
        have H1 : (colloquyref20_Same.l0 kj2 0 a0_0 a0_1 l0_2 a1_0 a1_1 l1_2) = some r := by rw [if_neg (show ¬ (false = true) by decide)] at H; exact H
        clear H
        have H := H1
        clear H1
        have H' := Aside0.mk H
        clear H
        go_wp2
        repeat (go_quiet (fail); try go_wp2)
        go_loopg [5] kj2 (fun kq v5 w' => ∃ (x5_2 : Int), v5 = .int .i64 x5_2 ∧ Aside0 (colloquyref20_Same.l0 kq x5_2 a0_0 a0_1 l0_2 a1_0 a1_1 l1_2 = some r) ∧ Aside0 (kq ≤ kj2) ∧ Aside0 (w'.heap[gb184]? = some (.cells #[.string a0_0, .string a0_1, (.slice A0_2 l0_2.length c0_2)] 29 (0, 0))) ∧ Aside0 (w'.heap[gb185]? = some (.cells #[.string a1_0, .string a1_1, (.slice A1_2 l1_2.length c1_2)] 29 (0, 0))) ∧ Aside0 (Below w.heap.size w w'))
        case atStart => exact ⟨(0), (by first | rfl | (simp; done) | (simp [*]; done)), H', ⟨Nat.le_refl _⟩, ⟨by (with_reducible repeat (first | refine blk_drewN ?_ _ | refine blk_drew ?_ | refine blk_alloc ?_ _)); exact BK184.out⟩, ⟨by (with_reducible repeat (first | refine blk_drewN ?_ _ | refine blk_drew ?_ | refine blk_alloc ?_ _)); exact BK185.out⟩, ⟨by repeat (first | (with_reducible first | exact HB.out | apply below_alloc | apply pw_below_drewN | apply below_drew1 | refine below_set ?_ GE184.out | refine below_set ?_ GE185.out) | exact HB.out)⟩⟩
        case round =>
          clear H'
          try clear c1
          try clear c2
          try clear p2
          try clear c6
          try clear c6b0
          try clear c6b1
          try clear c7
          try clear c7b0
          try clear c7b1
          try clear c8
          try clear c11
          try clear c14
          try clear c17
          try clear hcz10_0
          try clear hcz10_1
          try clear hcz10_2
          try clear hcz12_0
          try clear hcz12_1
          try clear hcz12_2
          try clear hcz13_0
          try clear hcz13_1
          try clear hcz13_2
          try clear hcz15_0
          try clear hcz15_1
          try clear hcz15_2
          try clear hcz16_0
          try clear hcz16_1
          try clear hcz16_2
          try clear hcz9_0
          try clear hcz9_1
          try clear hcz9_2
          try clear hfz10_0
          try clear hfz10_1
          try clear hfz10_2
          try clear hfz12_0
          try clear hfz12_1
          try clear hfz12_2
          try clear hfz13_0
          try clear hfz13_1
          try clear hfz13_2
          try clear hfz15_0
          try clear hfz15_1
          try clear hfz15_2
          try clear hfz16_0
          try clear hfz16_1
          try clear hfz16_2
          try clear hfz9_0
          try clear hfz9_1
          try clear hfz9_2
          try clear p2
          obtain ⟨x5_2, rfl, HA, HK2, BK184, BK185, HB⟩ := hrel
          cases gk with
          | zero => exact absurd HA.out (by simp [colloquyref20_Same.l0])
          | succ k2 =>
            have H := HA.out
            clear HA
            simp only [colloquyref20_Same.l0] at H
            by_cases c18 : x5_2 < (l0_2.length : Int)
            · rw [if_pos c18] at H
              have c18b0 : decide (x5_2 < (l0_2.length : Int)) = true := decide_eq_true c18
              clear c18
              have HC19 := Aside0.mk H
              clear H
              have hnb20 := NB184_185.out
              have hnc20 := NB185_184.out
              have hcz21_0 : wr.cell? ⟨gb184, 0, none⟩ = some (.string a0_0) := (blk_cell BK184.out 0).trans rfl
              have hcz21_1 : wr.cell? ⟨gb184, 1, none⟩ = some (.string a0_1) := (blk_cell BK184.out 1).trans rfl
              have hcz21_2 : wr.cell? ⟨gb184, 2, none⟩ = some (.slice A0_2 l0_2.length c0_2) := (blk_cell BK184.out 2).trans rfl
              have hfz21_0 := blk_frozen BK184.out 0
              have hfz21_1 := blk_frozen BK184.out 1
              have hfz21_2 := blk_frozen BK184.out 2
              go_upto_region 6 with (fail)
              repeat (go_quiet (fail); go_upto_region 6 with (fail))
              go_cut [64] (fun v64 wc => ∃ (kq : Nat) (x64_18 : Bool), v64 = .bool x64_18 ∧ Aside0 (colloquyref20_Same.j2 kq x5_2 x64_18 a0_0 a0_1 l0_2 a1_0 a1_1 l1_2 = some r) ∧ Aside0 (kq ≤ k2) ∧ Aside0 (wc.heap[gb184]? = some (.cells #[.string a0_0, .string a0_1, (.slice A0_2 l0_2.length c0_2)] 29 (0, 0))) ∧ Aside0 (wc.heap[gb185]? = some (.cells #[.string a1_0, .string a1_1, (.slice A1_2 l1_2.length c1_2)] 29 (0, 0))) ∧ Aside0 (Below w.heap.size w wc))
              case first =>
                have H := HC19.out
                clear HC19
                by_cases c22 : 0 ≤ x5_2
                · rw [if_pos c22] at H
                  have c22b0 : decide (0 ≤ x5_2) = true := decide_eq_true c22
                  clear c22
                  (first | rw [c22b0] | rw [c22b1] | (simp only [i64_w, i32_w]; rw [c22b0]) | skip)
                  by_cases c23 : x5_2 < (l1_2.length : Int)
                  · rw [if_pos c23] at H
                    have c23b0 : decide (x5_2 < (l1_2.length : Int)) = true := decide_eq_true c23
                    clear c23
                    by_cases c24 : ((rd_T53 l0_2 x5_2).f0).toList = ((rd_T53 l1_2 x5_2).f0).toList
                    · rw [if_pos c24] at H
                      have c24b0 : (((rd_T53 l0_2 x5_2).f0).toList == ((rd_T53 l1_2 x5_2).f0).toList) = true := beq_iff_eq.mpr c24
                      have c24b1 : (((rd_T53 l0_2 x5_2).f0).toList != ((rd_T53 l1_2 x5_2).f0).toList) = false := bne_eq_false_iff_eq.mpr c24
                      clear c24
                      have H' := Aside0.mk H
                      clear H
                      have hnb25 := NB184_185.out
                      have hnc25 := NB185_184.out
                      have hcz26_0 : wr.cell? ⟨gb184, 0, none⟩ = some (.string a0_0) := (blk_cell BK184.out 0).trans rfl
                      have hcz26_1 : wr.cell? ⟨gb184, 1, none⟩ = some (.string a0_1) := (blk_cell BK184.out 1).trans rfl
                      have hcz26_2 : wr.cell? ⟨gb184, 2, none⟩ = some (.slice A0_2 l0_2.length c0_2) := (blk_cell BK184.out 2).trans rfl
                      have hfz26_0 := blk_frozen BK184.out 0
                      have hfz26_1 := blk_frozen BK184.out 1
                      have hfz26_2 := blk_frozen BK184.out 2
                      have p186 : 0 ≤ (x5_2 : Int) := of_decide_eq_true (by first | (with_reducible assumption) | assumption)
                      have q186 : x5_2 < (l0_2.length : Int) := of_decide_eq_true (by first | (with_reducible assumption) | assumption)
                      obtain ⟨ad186, A186_1, c186_1, e186, hx186_0, hx186_1, hl186_1, hi186_1⟩ := at_T53 HR0_2.out x5_2 p186 q186
                      cases e186
                      replace hx186_0 := (HB.out.cell (World.block_lt_of_cell? w _ hx186_0)).trans hx186_0
                      replace hx186_1 := (HB.out.cell (World.block_lt_of_cell? w _ hx186_1)).trans hx186_1
                      have HR186_1 := Aside0.mk hi186_1
                      have HC186_1 := Aside0.mk hl186_1
                      clear hi186_1 hl186_1
                      replace p186 := eq_true p186
                      replace q186 := eq_true q186
                      have hcz27_0 : wr.cell? ⟨gb185, 0, none⟩ = some (.string a1_0) := (blk_cell BK185.out 0).trans rfl
                      have hcz27_1 : wr.cell? ⟨gb185, 1, none⟩ = some (.string a1_1) := (blk_cell BK185.out 1).trans rfl
                      have hcz27_2 : wr.cell? ⟨gb185, 2, none⟩ = some (.slice A1_2 l1_2.length c1_2) := (blk_cell BK185.out 2).trans rfl
                      have hfz27_0 := blk_frozen BK185.out 0
                      have hfz27_1 := blk_frozen BK185.out 1
                      have hfz27_2 := blk_frozen BK185.out 2
                      have p187 : 0 ≤ (x5_2 : Int) := of_decide_eq_true (by first | (with_reducible assumption) | assumption)
                      have q187 : x5_2 < (l1_2.length : Int) := of_decide_eq_true (by first | (with_reducible assumption) | assumption)
                      obtain ⟨ad187, A187_1, c187_1, e187, hx187_0, hx187_1, hl187_1, hi187_1⟩ := at_T53 HR1_2.out x5_2 p187 q187
                      cases e187
                      replace hx187_0 := (HB.out.cell (World.block_lt_of_cell? w _ hx187_0)).trans hx187_0
                      replace hx187_1 := (HB.out.cell (World.block_lt_of_cell? w _ hx187_1)).trans hx187_1
                      have HR187_1 := Aside0.mk hi187_1
                      have HC187_1 := Aside0.mk hl187_1
                      clear hi187_1 hl187_1
                      replace p187 := eq_true p187
                      replace q187 := eq_true q187
                      have p188 : 0 ≤ (x5_2 : Int) := of_decide_eq_true (by first | (with_reducible assumption) | assumption)
                      have q188 : x5_2 < (l0_2.length : Int) := of_decide_eq_true (by first | (with_reducible assumption) | assumption)
                      obtain ⟨ad188, A188_1, c188_1, e188, hx188_0, hx188_1, hl188_1, hi188_1⟩ := at_T53 HR0_2.out x5_2 p188 q188
                      obtain rfl : ad186 = ad188 := (by injection e188)
                      replace hx188_0 := (HB.out.cell (World.block_lt_of_cell? w _ hx188_0)).trans hx188_0
                      replace hx188_1 := (HB.out.cell (World.block_lt_of_cell? w _ hx188_1)).trans hx188_1
                      have HR188_1 := Aside0.mk hi188_1
                      have HC188_1 := Aside0.mk hl188_1
                      clear hi188_1 hl188_1
                      replace p188 := eq_true p188
                      replace q188 := eq_true q188
                      have ea_ := Option.some.inj (hx186_1.symm.trans hx188_1)
                      injection ea_ with ea_ en_ ec_
                      subst ea_
                      subst ec_
                      clear en_
                      have p189 : 0 ≤ (x5_2 : Int) := of_decide_eq_true (by first | (with_reducible assumption) | assumption)
                      have q189 : x5_2 < (l1_2.length : Int) := of_decide_eq_true (by first | (with_reducible assumption) | assumption)
                      obtain ⟨ad189, A189_1, c189_1, e189, hx189_0, hx189_1, hl189_1, hi189_1⟩ := at_T53 HR1_2.out x5_2 p189 q189
                      obtain rfl : ad187 = ad189 := (by injection e189)
                      replace hx189_0 := (HB.out.cell (World.block_lt_of_cell? w _ hx189_0)).trans hx189_0
                      replace hx189_1 := (HB.out.cell (World.block_lt_of_cell? w _ hx189_1)).trans hx189_1
                      have HR189_1 := Aside0.mk hi189_1
                      have HC189_1 := Aside0.mk hl189_1
                      clear hi189_1 hl189_1
                      replace p189 := eq_true p189
                      replace q189 := eq_true q189
                      have ea_ := Option.some.inj (hx187_1.symm.trans hx189_1)
                      injection ea_ with ea_ en_ ec_
                      subst ea_
                      subst ec_
                      clear en_
                      go_wp2
                      repeat (go_quiet (fail); try go_wp2)
                      go_meet
                      case rel => exact ⟨_, (((((rd_T53 l0_2 x5_2).f1).length : Int) != (((rd_T53 l1_2 x5_2).f1).length : Int))), (by first | rfl | (simp; done) | (simp [*]; done)), H', ⟨by have := HJ2.out; have := HK2.out; first | omega | exact Nat.le_refl _⟩, ⟨by (with_reducible repeat (first | refine blk_drewN ?_ _ | refine blk_drew ?_ | refine blk_alloc ?_ _)); exact BK184.out⟩, ⟨by (with_reducible repeat (first | refine blk_drewN ?_ _ | refine blk_drew ?_ | refine blk_alloc ?_ _)); exact BK185.out⟩, ⟨by repeat (first | (with_reducible first | exact HB.out | apply below_alloc | apply pw_below_drewN | apply below_drew1 | refine below_set ?_ GE184.out | refine below_set ?_ GE185.out) | exact HB.out)⟩⟩
                    · rw [if_neg c24] at H
                      have c24b0 : (((rd_T53 l0_2 x5_2).f0).toList == ((rd_T53 l1_2 x5_2).f0).toList) = false := beq_eq_false_iff_ne.mpr c24
                      have c24b1 : (((rd_T53 l0_2 x5_2).f0).toList != ((rd_T53 l1_2 x5_2).f0).toList) = true := bne_iff_ne.mpr c24
                      have H' := Aside0.mk H
                      clear H
                      have hnb28 := NB184_185.out
                      have hnc28 := NB185_184.out
                      have hcz29_0 : wr.cell? ⟨gb184, 0, none⟩ = some (.string a0_0) := (blk_cell BK184.out 0).trans rfl
                      have hcz29_1 : wr.cell? ⟨gb184, 1, none⟩ = some (.string a0_1) := (blk_cell BK184.out 1).trans rfl
                      have hcz29_2 : wr.cell? ⟨gb184, 2, none⟩ = some (.slice A0_2 l0_2.length c0_2) := (blk_cell BK184.out 2).trans rfl
                      have hfz29_0 := blk_frozen BK184.out 0
                      have hfz29_1 := blk_frozen BK184.out 1
                      have hfz29_2 := blk_frozen BK184.out 2
                      have p186 : 0 ≤ (x5_2 : Int) := of_decide_eq_true (by first | (with_reducible assumption) | assumption)
                      have q186 : x5_2 < (l0_2.length : Int) := of_decide_eq_true (by first | (with_reducible assumption) | assumption)
                      obtain ⟨ad186, A186_1, c186_1, e186, hx186_0, hx186_1, hl186_1, hi186_1⟩ := at_T53 HR0_2.out x5_2 p186 q186
                      cases e186
                      replace hx186_0 := (HB.out.cell (World.block_lt_of_cell? w _ hx186_0)).trans hx186_0
                      replace hx186_1 := (HB.out.cell (World.block_lt_of_cell? w _ hx186_1)).trans hx186_1
                      have HR186_1 := Aside0.mk hi186_1
                      have HC186_1 := Aside0.mk hl186_1
                      clear hi186_1 hl186_1
                      replace p186 := eq_true p186
                      replace q186 := eq_true q186
                      have hcz30_0 : wr.cell? ⟨gb185, 0, none⟩ = some (.string a1_0) := (blk_cell BK185.out 0).trans rfl
                      have hcz30_1 : wr.cell? ⟨gb185, 1, none⟩ = some (.string a1_1) := (blk_cell BK185.out 1).trans rfl
                      have hcz30_2 : wr.cell? ⟨gb185, 2, none⟩ = some (.slice A1_2 l1_2.length c1_2) := (blk_cell BK185.out 2).trans rfl
                      have hfz30_0 := blk_frozen BK185.out 0
                      have hfz30_1 := blk_frozen BK185.out 1
                      have hfz30_2 := blk_frozen BK185.out 2
                      have p187 : 0 ≤ (x5_2 : Int) := of_decide_eq_true (by first | (with_reducible assumption) | assumption)
                      have q187 : x5_2 < (l1_2.length : Int) := of_decide_eq_true (by first | (with_reducible assumption) | assumption)
                      obtain ⟨ad187, A187_1, c187_1, e187, hx187_0, hx187_1, hl187_1, hi187_1⟩ := at_T53 HR1_2.out x5_2 p187 q187
                      cases e187
                      replace hx187_0 := (HB.out.cell (World.block_lt_of_cell? w _ hx187_0)).trans hx187_0
                      replace hx187_1 := (HB.out.cell (World.block_lt_of_cell? w _ hx187_1)).trans hx187_1
                      have HR187_1 := Aside0.mk hi187_1
                      have HC187_1 := Aside0.mk hl187_1
                      clear hi187_1 hl187_1
                      replace p187 := eq_true p187
                      replace q187 := eq_true q187
                      go_wp2
                      repeat (go_quiet (fail); try go_wp2)
                      go_meet
                      case rel => exact ⟨_, (true), (by first | rfl | (simp; done) | (simp [*]; done)), H', ⟨by have := HJ2.out; have := HK2.out; first | omega | exact Nat.le_refl _⟩, ⟨by (with_reducible repeat (first | refine blk_drewN ?_ _ | refine blk_drew ?_ | refine blk_alloc ?_ _)); exact BK184.out⟩, ⟨by (with_reducible repeat (first | refine blk_drewN ?_ _ | refine blk_drew ?_ | refine blk_alloc ?_ _)); exact BK185.out⟩, ⟨by repeat (first | (with_reducible first | exact HB.out | apply below_alloc | apply pw_below_drewN | apply below_drew1 | refine below_set ?_ GE184.out | refine below_set ?_ GE185.out) | exact HB.out)⟩⟩
                  · rw [if_neg c23] at H
                    exact absurd H (by simp)
                · rw [if_neg c22] at H
                  exact absurd H (by simp)
              case rest =>
                clear HC19
                try clear c1
                try clear p1
                try clear q1
                try clear hx1
                try clear c2
                try clear p2
                try clear c6
                try clear c6b0
                try clear c6b1
                try clear c7
                try clear c7b0
                try clear c7b1
                try clear c8
                try clear c11
                try clear c14
                try clear c17
                try clear c18
                try clear c18b0
                try clear p18
                try clear q18
                try clear hx18
                try clear c20
                try clear c22
                try clear c22b0
                try clear c22b1
                try clear c23
                try clear c23b0
                try clear c24
                try clear c24b0
                try clear c24b1
                try clear c25
                try clear c28
                try clear hcz10_0
                try clear hcz10_1
                try clear hcz10_2
                try clear hcz12_0
                try clear hcz12_1
                try clear hcz12_2
                try clear hcz13_0
                try clear hcz13_1
                try clear hcz13_2
                try clear hcz15_0
                try clear hcz15_1
                try clear hcz15_2
                try clear hcz16_0
                try clear hcz16_1
                try clear hcz16_2
                try clear hcz21_0
                try clear hcz21_1
                try clear hcz21_2
                try clear hcz26_0
                try clear hcz26_1
                try clear hcz26_2
                try clear hcz27_0
                try clear hcz27_1
                try clear hcz27_2
                try clear hcz29_0
                try clear hcz29_1
                try clear hcz29_2
                try clear hcz30_0
                try clear hcz30_1
                try clear hcz30_2
                try clear hcz9_0
                try clear hcz9_1
                try clear hcz9_2
                try clear hfz10_0
                try clear hfz10_1
                try clear hfz10_2
                try clear hfz12_0
                try clear hfz12_1
                try clear hfz12_2
                try clear hfz13_0
                try clear hfz13_1
                try clear hfz13_2
                try clear hfz15_0
                try clear hfz15_1
                try clear hfz15_2
                try clear hfz16_0
                try clear hfz16_1
                try clear hfz16_2
                try clear hfz21_0
                try clear hfz21_1
                try clear hfz21_2
                try clear hfz26_0
                try clear hfz26_1
                try clear hfz26_2
                try clear hfz27_0
                try clear hfz27_1
                try clear hfz27_2
                try clear hfz29_0
                try clear hfz29_1
                try clear hfz29_2
                try clear hfz30_0
                try clear hfz30_1
                try clear hfz30_2
                try clear hfz9_0
                try clear hfz9_1
                try clear hfz9_2
                try clear hx186_0
                try clear hx186_1
                try clear hx187_0
                try clear hx187_1
                try clear hx188_0
                try clear hx188_1
                try clear hx189_0
                try clear hx189_1
                try clear p186
                try clear p187
                try clear p188
                try clear p189
                try clear p2
                try clear q186
                try clear q187
                try clear q188
                try clear q189
                obtain ⟨kq, x64_18, rfl, HA, HJ18, BK184, BK185, HB⟩ := hcut
                cases kq with
                | zero => exact absurd HA.out (by simp [colloquyref20_Same.j2])
                | succ kj18 =>
                  have H := HA.out
                  clear HA
                  simp only [colloquyref20_Same.j2] at H
                  by_cases c31 : x64_18 = true
                  · subst c31
                    have H1 : (some false) = some r := by rw [if_pos rfl] at H; exact H
                    clear H
                    have H := H1
                    clear H1
                    obtain rfl := Option.some.inj H
                    go_wp2
                    repeat (go_quiet (fail); try go_wp2)
                    go_ret
                    exact ⟨by first | rfl | (simp [errW_none, errW_some] <;> rfl) | (simp [*, errW_none, errW_some] <;> rfl), by repeat (first | (with_reducible first | exact HB.out | apply below_alloc | apply pw_below_drewN | apply below_drew1 | refine below_set ?_ GE184.out | refine below_set ?_ GE185.out) | exact HB.out)⟩
                  · replace c31 := Bool.eq_false_iff.mpr c31
                    subst c31
                    have H1 : (colloquyref20_Same.l1 kj18 x5_2 0 a0_0 a0_1 l0_2 a1_0 a1_1 l1_2) = some r := by rw [if_neg (show ¬ (false = true) by decide)] at H; exact H
                    clear H
                    have H := H1
                    clear H1
                    have H' := Aside0.mk H
                    clear H
                    go_wp2
                    repeat (go_quiet (fail); try go_wp2)
                    go_loopg [6] kj18 (fun kq v6 w' => ∃ (x6_4 : Int), v6 = .int .i64 x6_4 ∧ Aside0 (colloquyref20_Same.l1 kq x5_2 x6_4 a0_0 a0_1 l0_2 a1_0 a1_1 l1_2 = some r) ∧ Aside0 (kq ≤ kj18) ∧ Aside0 (w'.heap[gb184]? = some (.cells #[.string a0_0, .string a0_1, (.slice A0_2 l0_2.length c0_2)] 29 (0, 0))) ∧ Aside0 (w'.heap[gb185]? = some (.cells #[.string a1_0, .string a1_1, (.slice A1_2 l1_2.length c1_2)] 29 (0, 0))) ∧ Aside0 (Below w.heap.size w w'))
                    case atStart => exact ⟨(0), (by first | rfl | (simp; done) | (simp [*]; done)), H', ⟨Nat.le_refl _⟩, ⟨by (with_reducible repeat (first | refine blk_drewN ?_ _ | refine blk_drew ?_ | refine blk_alloc ?_ _)); exact BK184.out⟩, ⟨by (with_reducible repeat (first | refine blk_drewN ?_ _ | refine blk_drew ?_ | refine blk_alloc ?_ _)); exact BK185.out⟩, ⟨by repeat (first | (with_reducible first | exact HB.out | apply below_alloc | apply pw_below_drewN | apply below_drew1 | refine below_set ?_ GE184.out | refine below_set ?_ GE185.out) | exact HB.out)⟩⟩
                    case round =>
                      clear H'
                      try clear c1
                      try clear p1
                      try clear q1
                      try clear hx1
                      try clear c2
                      try clear p2
                      try clear c3
                      try clear c6
                      try clear c6b0
                      try clear c6b1
                      try clear c7
                      try clear c7b0
                      try clear c7b1
                      try clear c8
                      try clear c11
                      try clear c14
                      try clear c17
                      try clear c18
                      try clear c18b0
                      try clear p18
                      try clear q18
                      try clear hx18
                      try clear c20
                      try clear c22
                      try clear c22b0
                      try clear c22b1
                      try clear c23
                      try clear c23b0
                      try clear c24
                      try clear c24b0
                      try clear c24b1
                      try clear c25
                      try clear c28
                      try clear c31
                      try clear hcz10_0
                      try clear hcz10_1
                      try clear hcz10_2
                      try clear hcz12_0
                      try clear hcz12_1
                      try clear hcz12_2
                      try clear hcz13_0
                      try clear hcz13_1
                      try clear hcz13_2
                      try clear hcz15_0
                      try clear hcz15_1
                      try clear hcz15_2
                      try clear hcz16_0
                      try clear hcz16_1
                      try clear hcz16_2
                      try clear hcz21_0
                      try clear hcz21_1
                      try clear hcz21_2
                      try clear hcz26_0
                      try clear hcz26_1
                      try clear hcz26_2
                      try clear hcz27_0
                      try clear hcz27_1
                      try clear hcz27_2
                      try clear hcz29_0
                      try clear hcz29_1
                      try clear hcz29_2
                      try clear hcz30_0
                      try clear hcz30_1
                      try clear hcz30_2
                      try clear hcz9_0
                      try clear hcz9_1
                      try clear hcz9_2
                      try clear hfz10_0
                      try clear hfz10_1
                      try clear hfz10_2
                      try clear hfz12_0
                      try clear hfz12_1
                      try clear hfz12_2
                      try clear hfz13_0
                      try clear hfz13_1
                      try clear hfz13_2
                      try clear hfz15_0
                      try clear hfz15_1
                      try clear hfz15_2
                      try clear hfz16_0
                      try clear hfz16_1
                      try clear hfz16_2
                      try clear hfz21_0
                      try clear hfz21_1
                      try clear hfz21_2
                      try clear hfz26_0
                      try clear hfz26_1
                      try clear hfz26_2
                      try clear hfz27_0
                      try clear hfz27_1
                      try clear hfz27_2
                      try clear hfz29_0
                      try clear hfz29_1
                      try clear hfz29_2
                      try clear hfz30_0
                      try clear hfz30_1
                      try clear hfz30_2
                      try clear hfz9_0
                      try clear hfz9_1
                      try clear hfz9_2
                      try clear hx186_0
                      try clear hx186_1
                      try clear hx187_0
                      try clear hx187_1
                      try clear hx188_0
                      try clear hx188_1
                      try clear hx189_0
                      try clear hx189_1
                      try clear p1
                      try clear p18
                      try clear p186
                      try clear p187
                      try clear p188
                      try clear p189
                      try clear p2
                      try clear q1
                      try clear q18
                      try clear q186
                      try clear q187
                      try clear q188
                      try clear q189
                      obtain ⟨x6_4, rfl, HA, HK4, BK184, BK185, HB⟩ := hrel
                      cases gk with
                      | zero => exact absurd HA.out (by simp [colloquyref20_Same.l1])
                      | succ k4 =>
                        have H := HA.out
                        clear HA
                        simp only [colloquyref20_Same.l1] at H
                        by_cases c32 : 0 ≤ x5_2
                        · rw [if_pos c32] at H
                          have c32b0 : decide (0 ≤ x5_2) = true := decide_eq_true c32
                          clear c32
                          by_cases c33 : x5_2 < (l0_2.length : Int)
                          · rw [if_pos c33] at H
                            have c33b0 : decide (x5_2 < (l0_2.length : Int)) = true := decide_eq_true c33
                            clear c33
                            by_cases c34 : x6_4 < (((rd_T53 l0_2 x5_2).f1).length : Int)
                            · rw [if_pos c34] at H
                              have c34b0 : decide (x6_4 < (((rd_T53 l0_2 x5_2).f1).length : Int)) = true := decide_eq_true c34
                              clear c34
                              by_cases c35 : 0 ≤ x6_4
                              · rw [if_pos c35] at H
                                have c35b0 : decide (0 ≤ x6_4) = true := decide_eq_true c35
                                clear c35
                                by_cases c36 : x5_2 < (l1_2.length : Int)
                                · rw [if_pos c36] at H
                                  have c36b0 : decide (x5_2 < (l1_2.length : Int)) = true := decide_eq_true c36
                                  clear c36
                                  by_cases c37 : x6_4 < (((rd_T53 l1_2 x5_2).f1).length : Int)
                                  · rw [if_pos c37] at H
                                    have c37b0 : decide (x6_4 < (((rd_T53 l1_2 x5_2).f1).length : Int)) = true := decide_eq_true c37
                                    clear c37
                                    by_cases c38 : (!((((rd_T49 ((rd_T53 l0_2 x5_2).f1) x6_4).f0).toList) == (((rd_T49 ((rd_T53 l1_2 x5_2).f1) x6_4).f0).toList)) || (!(((rd_T49 ((rd_T53 l0_2 x5_2).f1) x6_4).f1) == ((rd_T49 ((rd_T53 l1_2 x5_2).f1) x6_4).f1)))) = true
                                    · rw [if_pos c38] at H
                                      have c38b0 : (!((((rd_T49 ((rd_T53 l0_2 x5_2).f1) x6_4).f0).toList) == (((rd_T49 ((rd_T53 l1_2 x5_2).f1) x6_4).f0).toList)) || (!(((rd_T49 ((rd_T53 l0_2 x5_2).f1) x6_4).f1) == ((rd_T49 ((rd_T53 l1_2 x5_2).f1) x6_4).f1)))) = true := c38
                                      clear c38
                                      obtain rfl := Option.some.inj H
                                      have hnb39 := NB184_185.out
                                      have hnc39 := NB185_184.out
                                      have hcz40_0 : wr.cell? ⟨gb184, 0, none⟩ = some (.string a0_0) := (blk_cell BK184.out 0).trans rfl
                                      have hcz40_1 : wr.cell? ⟨gb184, 1, none⟩ = some (.string a0_1) := (blk_cell BK184.out 1).trans rfl
                                      have hcz40_2 : wr.cell? ⟨gb184, 2, none⟩ = some (.slice A0_2 l0_2.length c0_2) := (blk_cell BK184.out 2).trans rfl
                                      have hfz40_0 := blk_frozen BK184.out 0
                                      have hfz40_1 := blk_frozen BK184.out 1
                                      have hfz40_2 := blk_frozen BK184.out 2
                                      have p190 : 0 ≤ (x5_2 : Int) := of_decide_eq_true (by first | (with_reducible assumption) | assumption)
                                      have q190 : x5_2 < (l0_2.length : Int) := of_decide_eq_true (by first | (with_reducible assumption) | assumption)
                                      obtain ⟨ad190, A190_1, c190_1, e190, hx190_0, hx190_1, hl190_1, hi190_1⟩ := at_T53 HR0_2.out x5_2 p190 q190
                                      cases e190
                                      replace hx190_0 := (HB.out.cell (World.block_lt_of_cell? w _ hx190_0)).trans hx190_0
                                      replace hx190_1 := (HB.out.cell (World.block_lt_of_cell? w _ hx190_1)).trans hx190_1
                                      have HR190_1 := Aside0.mk hi190_1
                                      have HC190_1 := Aside0.mk hl190_1
                                      clear hi190_1 hl190_1
                                      replace p190 := eq_true p190
                                      replace q190 := eq_true q190
                                      have p191 : 0 ≤ (x5_2 : Int) := of_decide_eq_true (by first | (with_reducible assumption) | assumption)
                                      have q191 : x5_2 < (l0_2.length : Int) := of_decide_eq_true (by first | (with_reducible assumption) | assumption)
                                      obtain ⟨ad191, A191_1, c191_1, e191, hx191_0, hx191_1, hl191_1, hi191_1⟩ := at_T53 HR0_2.out x5_2 p191 q191
                                      obtain rfl : ad190 = ad191 := (by injection e191)
                                      replace hx191_0 := (HB.out.cell (World.block_lt_of_cell? w _ hx191_0)).trans hx191_0
                                      replace hx191_1 := (HB.out.cell (World.block_lt_of_cell? w _ hx191_1)).trans hx191_1
                                      have HR191_1 := Aside0.mk hi191_1
                                      have HC191_1 := Aside0.mk hl191_1
                                      clear hi191_1 hl191_1
                                      replace p191 := eq_true p191
                                      replace q191 := eq_true q191
                                      have ea_ := Option.some.inj (hx190_1.symm.trans hx191_1)
                                      injection ea_ with ea_ en_ ec_
                                      subst ea_
                                      subst ec_
                                      clear en_
                                      have p192 : 0 ≤ (x6_4 : Int) := of_decide_eq_true (by first | (with_reducible assumption) | assumption)
                                      have q192 : x6_4 < (((rd_T53 l0_2 x5_2).f1).length : Int) := of_decide_eq_true (by first | (with_reducible assumption) | assumption)
                                      obtain ⟨ad192, e192, hx192_0, hx192_1⟩ := at_T49 HR191_1.out x6_4 p192 q192
                                      cases e192
                                      replace hx192_0 := (HB.out.cell (World.block_lt_of_cell? w _ hx192_0)).trans hx192_0
                                      replace hx192_1 := (HB.out.cell (World.block_lt_of_cell? w _ hx192_1)).trans hx192_1
                                      replace p192 := eq_true p192
                                      replace q192 := eq_true q192
                                      have hcz41_0 : wr.cell? ⟨gb185, 0, none⟩ = some (.string a1_0) := (blk_cell BK185.out 0).trans rfl
                                      have hcz41_1 : wr.cell? ⟨gb185, 1, none⟩ = some (.string a1_1) := (blk_cell BK185.out 1).trans rfl
                                      have hcz41_2 : wr.cell? ⟨gb185, 2, none⟩ = some (.slice A1_2 l1_2.length c1_2) := (blk_cell BK185.out 2).trans rfl
                                      have hfz41_0 := blk_frozen BK185.out 0
                                      have hfz41_1 := blk_frozen BK185.out 1
                                      have hfz41_2 := blk_frozen BK185.out 2
                                      have p193 : 0 ≤ (x5_2 : Int) := of_decide_eq_true (by first | (with_reducible assumption) | assumption)
                                      have q193 : x5_2 < (l1_2.length : Int) := of_decide_eq_true (by first | (with_reducible assumption) | assumption)
                                      obtain ⟨ad193, A193_1, c193_1, e193, hx193_0, hx193_1, hl193_1, hi193_1⟩ := at_T53 HR1_2.out x5_2 p193 q193
                                      cases e193
                                      replace hx193_0 := (HB.out.cell (World.block_lt_of_cell? w _ hx193_0)).trans hx193_0
                                      replace hx193_1 := (HB.out.cell (World.block_lt_of_cell? w _ hx193_1)).trans hx193_1
                                      have HR193_1 := Aside0.mk hi193_1
                                      have HC193_1 := Aside0.mk hl193_1
                                      clear hi193_1 hl193_1
                                      replace p193 := eq_true p193
                                      replace q193 := eq_true q193
                                      have p194 : 0 ≤ (x6_4 : Int) := of_decide_eq_true (by first | (with_reducible assumption) | assumption)
                                      have q194 : x6_4 < (((rd_T53 l1_2 x5_2).f1).length : Int) := of_decide_eq_true (by first | (with_reducible assumption) | assumption)
                                      obtain ⟨ad194, e194, hx194_0, hx194_1⟩ := at_T49 HR193_1.out x6_4 p194 q194
                                      cases e194
                                      replace hx194_0 := (HB.out.cell (World.block_lt_of_cell? w _ hx194_0)).trans hx194_0
                                      replace hx194_1 := (HB.out.cell (World.block_lt_of_cell? w _ hx194_1)).trans hx194_1
                                      replace p194 := eq_true p194
                                      replace q194 := eq_true q194
                                      go_wp2
                                      repeat (go_quiet (fail); try go_wp2)
                                      go_ret
                                      exact ⟨by first | rfl | (simp [errW_none, errW_some] <;> rfl) | (simp [*, errW_none, errW_some] <;> rfl), by repeat (first | (with_reducible first | exact HB.out | apply below_alloc | apply pw_below_drewN | apply below_drew1 | refine below_set ?_ GE184.out | refine below_set ?_ GE185.out) | exact HB.out)⟩
                                    · rw [if_neg c38] at H
                                      have c38b0 : (!((((rd_T49 ((rd_T53 l0_2 x5_2).f1) x6_4).f0).toList) == (((rd_T49 ((rd_T53 l1_2 x5_2).f1) x6_4).f0).toList)) || (!(((rd_T49 ((rd_T53 l0_2 x5_2).f1) x6_4).f1) == ((rd_T49 ((rd_T53 l1_2 x5_2).f1) x6_4).f1)))) = false := by simpa using c38
                                      clear c38
                                      have H' := Aside0.mk H
                                      clear H
                                      have hnb42 := NB184_185.out
                                      have hnc42 := NB185_184.out
                                      have hcz43_0 : wr.cell? ⟨gb184, 0, none⟩ = some (.string a0_0) := (blk_cell BK184.out 0).trans rfl
                                      have hcz43_1 : wr.cell? ⟨gb184, 1, none⟩ = some (.string a0_1) := (blk_cell BK184.out 1).trans rfl
                                      have hcz43_2 : wr.cell? ⟨gb184, 2, none⟩ = some (.slice A0_2 l0_2.length c0_2) := (blk_cell BK184.out 2).trans rfl
                                      have hfz43_0 := blk_frozen BK184.out 0
                                      have hfz43_1 := blk_frozen BK184.out 1
                                      have hfz43_2 := blk_frozen BK184.out 2
                                      have p190 : 0 ≤ (x5_2 : Int) := of_decide_eq_true (by first | (with_reducible assumption) | assumption)
                                      have q190 : x5_2 < (l0_2.length : Int) := of_decide_eq_true (by first | (with_reducible assumption) | assumption)
                                      obtain ⟨ad190, A190_1, c190_1, e190, hx190_0, hx190_1, hl190_1, hi190_1⟩ := at_T53 HR0_2.out x5_2 p190 q190
                                      cases e190
                                      replace hx190_0 := (HB.out.cell (World.block_lt_of_cell? w _ hx190_0)).trans hx190_0
                                      replace hx190_1 := (HB.out.cell (World.block_lt_of_cell? w _ hx190_1)).trans hx190_1
                                      have HR190_1 := Aside0.mk hi190_1
                                      have HC190_1 := Aside0.mk hl190_1
                                      clear hi190_1 hl190_1
                                      replace p190 := eq_true p190
                                      replace q190 := eq_true q190
                                      have p191 : 0 ≤ (x5_2 : Int) := of_decide_eq_true (by first | (with_reducible assumption) | assumption)
                                      have q191 : x5_2 < (l0_2.length : Int) := of_decide_eq_true (by first | (with_reducible assumption) | assumption)
                                      obtain ⟨ad191, A191_1, c191_1, e191, hx191_0, hx191_1, hl191_1, hi191_1⟩ := at_T53 HR0_2.out x5_2 p191 q191
                                      obtain rfl : ad190 = ad191 := (by injection e191)
                                      replace hx191_0 := (HB.out.cell (World.block_lt_of_cell? w _ hx191_0)).trans hx191_0
                                      replace hx191_1 := (HB.out.cell (World.block_lt_of_cell? w _ hx191_1)).trans hx191_1
                                      have HR191_1 := Aside0.mk hi191_1
                                      have HC191_1 := Aside0.mk hl191_1
                                      clear hi191_1 hl191_1
                                      replace p191 := eq_true p191
                                      replace q191 := eq_true q191
                                      have ea_ := Option.some.inj (hx190_1.symm.trans hx191_1)
                                      injection ea_ with ea_ en_ ec_
                                      subst ea_
                                      subst ec_
                                      clear en_
                                      have p192 : 0 ≤ (x6_4 : Int) := of_decide_eq_true (by first | (with_reducible assumption) | assumption)
                                      have q192 : x6_4 < (((rd_T53 l0_2 x5_2).f1).length : Int) := of_decide_eq_true (by first | (with_reducible assumption) | assumption)
                                      obtain ⟨ad192, e192, hx192_0, hx192_1⟩ := at_T49 HR191_1.out x6_4 p192 q192
                                      cases e192
                                      replace hx192_0 := (HB.out.cell (World.block_lt_of_cell? w _ hx192_0)).trans hx192_0
                                      replace hx192_1 := (HB.out.cell (World.block_lt_of_cell? w _ hx192_1)).trans hx192_1
                                      replace p192 := eq_true p192
                                      replace q192 := eq_true q192
                                      have hcz44_0 : wr.cell? ⟨gb185, 0, none⟩ = some (.string a1_0) := (blk_cell BK185.out 0).trans rfl
                                      have hcz44_1 : wr.cell? ⟨gb185, 1, none⟩ = some (.string a1_1) := (blk_cell BK185.out 1).trans rfl
                                      have hcz44_2 : wr.cell? ⟨gb185, 2, none⟩ = some (.slice A1_2 l1_2.length c1_2) := (blk_cell BK185.out 2).trans rfl
                                      have hfz44_0 := blk_frozen BK185.out 0
                                      have hfz44_1 := blk_frozen BK185.out 1
                                      have hfz44_2 := blk_frozen BK185.out 2
                                      have p193 : 0 ≤ (x5_2 : Int) := of_decide_eq_true (by first | (with_reducible assumption) | assumption)
                                      have q193 : x5_2 < (l1_2.length : Int) := of_decide_eq_true (by first | (with_reducible assumption) | assumption)
                                      obtain ⟨ad193, A193_1, c193_1, e193, hx193_0, hx193_1, hl193_1, hi193_1⟩ := at_T53 HR1_2.out x5_2 p193 q193
                                      cases e193
                                      replace hx193_0 := (HB.out.cell (World.block_lt_of_cell? w _ hx193_0)).trans hx193_0
                                      replace hx193_1 := (HB.out.cell (World.block_lt_of_cell? w _ hx193_1)).trans hx193_1
                                      have HR193_1 := Aside0.mk hi193_1
                                      have HC193_1 := Aside0.mk hl193_1
                                      clear hi193_1 hl193_1
                                      replace p193 := eq_true p193
                                      replace q193 := eq_true q193
                                      have p194 : 0 ≤ (x6_4 : Int) := of_decide_eq_true (by first | (with_reducible assumption) | assumption)
                                      have q194 : x6_4 < (((rd_T53 l1_2 x5_2).f1).length : Int) := of_decide_eq_true (by first | (with_reducible assumption) | assumption)
                                      obtain ⟨ad194, e194, hx194_0, hx194_1⟩ := at_T49 HR193_1.out x6_4 p194 q194
                                      cases e194
                                      replace hx194_0 := (HB.out.cell (World.block_lt_of_cell? w _ hx194_0)).trans hx194_0
                                      replace hx194_1 := (HB.out.cell (World.block_lt_of_cell? w _ hx194_1)).trans hx194_1
                                      replace p194 := eq_true p194
                                      replace q194 := eq_true q194
                                      go_wp2
                                      repeat (go_quiet (fail); try go_wp2)
                                      go_roundg k4
                                      case measure => have := HJ2.out; have := HK2.out; have := HJ18.out; have := HK4.out; omega
                                      case rel => exact ⟨(wrap64 (x6_4 + 1)), (by first | rfl | (simp; done) | (simp [*]; done)), H', ⟨by have := HJ2.out; have := HK2.out; have := HJ18.out; have := HK4.out; omega⟩, ⟨by (with_reducible repeat (first | refine blk_drewN ?_ _ | refine blk_drew ?_ | refine blk_alloc ?_ _)); exact BK184.out⟩, ⟨by (with_reducible repeat (first | refine blk_drewN ?_ _ | refine blk_drew ?_ | refine blk_alloc ?_ _)); exact BK185.out⟩, ⟨by repeat (first | (with_reducible first | exact HB.out | apply below_alloc | apply pw_below_drewN | apply below_drew1 | refine below_set ?_ GE184.out | refine below_set ?_ GE185.out) | exact HB.out)⟩⟩
                                  · rw [if_neg c37] at H
                                    exact absurd H (by simp)
                                · rw [if_neg c36] at H
                                  exact absurd H (by simp)
                              · rw [if_neg c35] at H
                                exact absurd H (by simp)
                            · rw [if_neg c34] at H
                              have c34b0 : decide (x6_4 < (((rd_T53 l0_2 x5_2).f1).length : Int)) = false := decide_eq_false c34
                              clear c34
                              have H' := Aside0.mk H
                              clear H
                              have hnb45 := NB184_185.out
                              have hnc45 := NB185_184.out
                              have hcz46_0 : wr.cell? ⟨gb184, 0, none⟩ = some (.string a0_0) := (blk_cell BK184.out 0).trans rfl
                              have hcz46_1 : wr.cell? ⟨gb184, 1, none⟩ = some (.string a0_1) := (blk_cell BK184.out 1).trans rfl
                              have hcz46_2 : wr.cell? ⟨gb184, 2, none⟩ = some (.slice A0_2 l0_2.length c0_2) := (blk_cell BK184.out 2).trans rfl
                              have hfz46_0 := blk_frozen BK184.out 0
                              have hfz46_1 := blk_frozen BK184.out 1
                              have hfz46_2 := blk_frozen BK184.out 2
                              have p190 : 0 ≤ (x5_2 : Int) := of_decide_eq_true (by first | (with_reducible assumption) | assumption)
                              have q190 : x5_2 < (l0_2.length : Int) := of_decide_eq_true (by first | (with_reducible assumption) | assumption)
                              obtain ⟨ad190, A190_1, c190_1, e190, hx190_0, hx190_1, hl190_1, hi190_1⟩ := at_T53 HR0_2.out x5_2 p190 q190
                              cases e190
                              replace hx190_0 := (HB.out.cell (World.block_lt_of_cell? w _ hx190_0)).trans hx190_0
                              replace hx190_1 := (HB.out.cell (World.block_lt_of_cell? w _ hx190_1)).trans hx190_1
                              have HR190_1 := Aside0.mk hi190_1
                              have HC190_1 := Aside0.mk hl190_1
                              clear hi190_1 hl190_1
                              replace p190 := eq_true p190
                              replace q190 := eq_true q190
                              go_wp2
                              repeat (go_quiet (fail); try go_wp2)
                              go_roundg k4
                              case measure => have := HJ2.out; have := HK2.out; have := HJ18.out; have := HK4.out; omega
                              case rel => exact ⟨(wrap64 (x5_2 + 1)), (by first | rfl | (simp; done) | (simp [*]; done)), H', ⟨by have := HJ2.out; have := HK2.out; have := HJ18.out; have := HK4.out; omega⟩, ⟨by (with_reducible repeat (first | refine blk_drewN ?_ _ | refine blk_drew ?_ | refine blk_alloc ?_ _)); exact BK184.out⟩, ⟨by (with_reducible repeat (first | refine blk_drewN ?_ _ | refine blk_drew ?_ | refine blk_alloc ?_ _)); exact BK185.out⟩, ⟨by repeat (first | (with_reducible first | exact HB.out | apply below_alloc | apply pw_below_drewN | apply below_drew1 | refine below_set ?_ GE184.out | refine below_set ?_ GE185.out) | exact HB.out)⟩⟩
                          · rw [if_neg c33] at H
                            exact absurd H (by simp)
                        · rw [if_neg c32] at H
                          exact absurd H (by simp)
            · rw [if_neg c18] at H
              have c18b0 : decide (x5_2 < (l0_2.length : Int)) = false := decide_eq_false c18
              clear c18
              obtain rfl := Option.some.inj H
              have hnb47 := NB184_185.out
              have hnc47 := NB185_184.out
              have hcz48_0 : wr.cell? ⟨gb184, 0, none⟩ = some (.string a0_0) := (blk_cell BK184.out 0).trans rfl
              have hcz48_1 : wr.cell? ⟨gb184, 1, none⟩ = some (.string a0_1) := (blk_cell BK184.out 1).trans rfl
              have hcz48_2 : wr.cell? ⟨gb184, 2, none⟩ = some (.slice A0_2 l0_2.length c0_2) := (blk_cell BK184.out 2).trans rfl
              have hfz48_0 := blk_frozen BK184.out 0
              have hfz48_1 := blk_frozen BK184.out 1
              have hfz48_2 := blk_frozen BK184.out 2
              go_wp2
              repeat (go_quiet (fail); try go_wp2)
              go_ret
              exact ⟨by first | rfl | (simp [errW_none, errW_some] <;> rfl) | (simp [*, errW_none, errW_some] <;> rfl), by repeat (first | (with_reducible first | exact HB.out | apply below_alloc | apply pw_below_drewN | apply below_drew1 | refine below_set ?_ GE184.out | refine below_set ?_ GE185.out) | exact HB.out)⟩
end
section
theorem KR_heap : Kd.Heap KR := Kd.heap_iso _ (Kd.heap_pair Kd.heap_string (Kd.heap_int .i64))
theorem KP_heap : Kd.Heap KP := Kd.heap_iso _ (Kd.heap_pair Kd.heap_string (Kd.heap_slice 49 KR_heap))
theorem of_l0 (su bo : ByteArray) (ps : List PP) (hs : szP ps) : ∀ (suf pre : List PP), pre ++ suf = ps → Ev (fun k => colloquylaw20_of.l0 k ps (ps.length : Int) (pre.length : Int) su bo (pre.map cv)) (su, bo, ps.map cv)
  | [], pre, h => by
    rw [List.append_nil] at h
    subst h
    exact Ev.step (f := fun _ => some (su, bo, pre.map cv)) (fun k => by rw [colloquylaw20_of.l0, if_neg (by omega)]) (Ev.now _)
  | p :: suf, pre, h => by
    subst h
    have hl : pre.length + 1 ≤ 3518437208883 := by have h_ := hs.1; simp at h_; omega
    have ih := of_l0 su bo (pre ++ p :: suf) hs suf (pre ++ [p]) (by rw [← app1])
    refine Ev.step (fun k => ?_) ih
    rw [colloquylaw20_of.l0, if_pos (ltA _ _ _), if_pos (by omega), if_pos (ltA _ _ _), if_pos (by rw [List.length_map]; omega), rdP, wr1 pre p (by omega), List.map_append]
    rfl
theorem of_ev (su bo : ByteArray) (ps : List PP) (hs : szP ps) : Ev (fun k => colloquylaw20_of.f k su bo ps) (su, bo, ps.map cv) := of_l0 su bo ps hs ps [] rfl
theorem same_l1 (su bo : ByteArray) (pre suf : List PP) (p : PP) (hl : pre.length < 9223372036854775807) (hb : Ev (fun k => colloquyref20_Same.l0 k ((pre ++ [p]).length : Int) su bo ((pre ++ p :: suf).map cv) su bo ((pre ++ p :: suf).map cv)) true) : ∀ (rsuf rpre : List RS), rpre ++ rsuf = p.f1 → p.f1.length ≤ 9223372036854775807 → Ev (fun k => colloquyref20_Same.l1 k (pre.length : Int) (rpre.length : Int) su bo ((pre ++ p :: suf).map cv) su bo ((pre ++ p :: suf).map cv)) true
  | [], rpre, h, _ => by
    rw [List.append_nil] at h
    refine Ev.step (fun k => ?_) hb
    rw [colloquyref20_Same.l1, if_pos (by omega), if_pos (ltQ _ _ _), rdQ, if_neg (by show ¬ (rpre.length : Int) < (p.f1.length : Int); rw [h]; omega), wr1 pre p hl]
  | r :: rs, rpre, h, hm => by
    have ih := same_l1 su bo pre suf p hl hb rs (rpre ++ [r]) (by rw [← app1]; exact h) hm
    have hlt : (rpre.length : Int) < ((cv p).f1.length : Int) := by show (rpre.length : Int) < (p.f1.length : Int); rw [← h]; exact ltA _ _ _
    have hlt2 : rpre.length < 9223372036854775807 := by have : (rpre.length : Int) < (p.f1.length : Int) := hlt; omega
    refine Ev.step (fun k => ?_) ih
    rw [colloquyref20_Same.l1, if_pos (by omega), if_pos (ltQ _ _ _), rdQ, if_pos hlt, if_pos (by omega), if_pos (ltQ _ _ _), if_pos hlt, if_neg (by simp), wr1 rpre r hlt2]
theorem same_l0 (su bo : ByteArray) (ps : List PP) (hs : szP ps) : ∀ suf pre, pre ++ suf = ps → Ev (fun k => colloquyref20_Same.l0 k (pre.length : Int) su bo (ps.map cv) su bo (ps.map cv)) true
  | [], pre, h => by
    subst h
    exact Ev.step (f := fun _ => some true) (fun k => by rw [colloquyref20_Same.l0, if_neg (nltQ _)]) (Ev.now _)
  | p :: suf, pre, h => by
    have ih := same_l0 su bo ps hs suf (pre ++ [p]) (by rw [← app1]; exact h)
    subst h
    have hl : pre.length < 9223372036854775807 := by have h_ := hs.1; simp at h_; omega
    have h1 := same_l1 su bo pre suf p hl ih p.f1 [] rfl (by have := hs.2 p (by simp); omega)
    refine Ev.step (f := fun k => colloquyref20_Same.j2 k (pre.length : Int) false su bo ((pre ++ p :: suf).map cv) su bo ((pre ++ p :: suf).map cv)) (fun k => ?_) (Ev.step (fun k => ?_) h1)
    · rw [colloquyref20_Same.l0, if_pos (ltQ _ _ _), if_pos (by omega), if_pos (ltQ _ _ _), rdQ, if_pos rfl]
      congr 1
      exact bne_self_eq_false _
    · rw [colloquyref20_Same.j2, if_neg (by decide)]
      rfl
theorem same_ev (su bo : ByteArray) (ps : List PP) (hs : szP ps) : Ev (fun k => colloquyref20_Same.f k su bo (ps.map cv) su bo (ps.map cv)) true := by
  refine Ev.congr (f := fun k => colloquyref20_Same.j0 k false su bo (ps.map cv) su bo (ps.map cv)) (fun k => ?_) (Ev.step (fun k => ?_) (same_l0 su bo ps hs ps [] rfl))
  · rw [colloquyref20_Same.f, if_pos rfl, if_pos rfl]
    congr 1
    exact bne_self_eq_false _
  · rw [colloquyref20_Same.j0, if_neg (by decide)]
    rfl
section
variable {w0 w w1 : World} {R : Chunk} {A A2 : Option Addr} {c c2 : Nat} {su bo : ByteArray} {ps : List PP} {S : Nat → Prop}
theorem right_calls (A : Option Addr) (c : Nat) (su bo : ByteArray) (ps : List PP) (w : World) (hz : szP ps) (hr : Kd.C KP w A ps.length ps) (hc : ps.length ≤ c) : Calls Tryd.prog 14 #[.agg #[.string su, .string bo, .slice A ps.length c]] w fun e w' => e = .returned (.bool (rightS su bo ps)) ∧ Below w.heap.size w w' := by
  obtain ⟨k, hk⟩ := right_ev su bo ps hz
  exact sum_Right.calls k su bo A c ps _ w hr hc (hk k (Nat.le_refl _))
theorem few_calls (A : Option Addr) (c : Nat) (su bo : ByteArray) (ps : List PP) (w : World) (hz : szP ps) (hr : Kd.C KP w A ps.length ps) (hc : ps.length ≤ c) : Calls Tryd.prog 10 #[.agg #[.string su, .string bo, .slice A ps.length c]] w fun e w' => e = .returned (.bool (decide ((ps.length : Int) + sumL ps ≤ 2000))) ∧ Below w.heap.size w w' := by
  obtain ⟨k, hk⟩ := few_ev su bo ps hz
  exact colloquylaw20_few.calls k su bo A c ps _ w hr hc (hk k (Nat.le_refl _))
theorem rright_calls (A : Option Addr) (c : Nat) (su bo : ByteArray) (ps : List PP) (w : World) (hz : szP ps) (hr : Kd.C KQ w A (ps.map cv).length (ps.map cv)) (hc : (ps.map cv).length ≤ c) : Calls Tryd.prog 15 #[.agg #[.string su, .string bo, .slice A (ps.map cv).length c]] w fun e w' => e = .returned (.bool (rightS su bo ps)) ∧ Below w.heap.size w w' := by
  obtain ⟨k, hk⟩ := rright_ev su bo ps hz
  exact colloquyref20_Right.calls k su bo A c (ps.map cv) _ w hr hc (hk k (Nat.le_refl _))
theorem rtotal_calls (A : Option Addr) (c : Nat) (su bo : ByteArray) (ps : List PP) (v : Int) (w : World) (hv : 0 ≤ v ∧ v ≤ 7) (hz : szP ps) (hsm : sumL ps ≤ 1000000000) (hr : Kd.C KQ w A (ps.map cv).length (ps.map cv)) (hc : (ps.map cv).length ≤ c) : Calls Tryd.prog 13 #[.agg #[.string su, .string bo, .slice A (ps.map cv).length c], .int .i64 v] w fun e w' => e = .returned (.int .i64 (totL ps v)) ∧ Below w.heap.size w w' := by
  obtain ⟨k, hk⟩ := total_ev su bo ps v hv hz hsm
  exact colloquyref20_Total.calls k su bo A c (ps.map cv) v _ w hr hc (hk k (Nat.le_refl _))
theorem rtext_calls (A : Option Addr) (c : Nat) (su bo : ByteArray) (ps : List PP) (w : World) (hz : szP ps) (hsm : ps.length + sumL ps ≤ 1000000000) (hr : Kd.C KQ w A (ps.map cv).length (ps.map cv)) (hc : (ps.map cv).length ≤ c) : Calls Tryd.prog 17 #[.agg #[.string su, .string bo, .slice A (ps.map cv).length c]] w fun e w' => e = .returned (.string (textL su bo ps)) ∧ Below w.heap.size w w' := by
  obtain ⟨k, hk⟩ := text_ev su bo ps hz hsm
  exact colloquyref20_Text.calls k su bo A c (ps.map cv) _ w hr hc (hk k (Nat.le_refl _))
theorem same_calls (A A2 : Option Addr) (c c2 : Nat) (su bo : ByteArray) (ps : List PP) (w : World) (hz : szP ps) (hr : Kd.C KQ w A (ps.map cv).length (ps.map cv)) (hc : (ps.map cv).length ≤ c) (hr2 : Kd.C KQ w A2 (ps.map cv).length (ps.map cv)) (hc2 : (ps.map cv).length ≤ c2) : Calls Tryd.prog 20 #[.agg #[.string su, .string bo, .slice A (ps.map cv).length c], .agg #[.string su, .string bo, .slice A2 (ps.map cv).length c2]] w fun e w' => e = .returned (.bool true) ∧ Below w.heap.size w w' := by
  obtain ⟨k, hk⟩ := same_ev su bo ps hz
  exact colloquyref20_Same.calls k su bo A c (ps.map cv) su bo A2 c2 (ps.map cv) _ w hr hc hr2 hc2 (hk k (Nat.le_refl _))
theorem of_arg (w0 w : World) (R : Chunk) (A : Option Addr) (c : Nat) (su bo : ByteArray) (ps : List PP) (hz : szP ps) (hr : Kd.C KP w0 A ps.length ps) (hc : ps.length ≤ c) (HO : Own w0 w [R]) : Calls Tryd.prog 11 #[.agg #[.string su, .string bo, .slice A ps.length c]] w fun e w' => ∃ (A2 : Option Addr) (c2 : Nat) (w1 : World) (S : Nat → Prop), e = .returned (.agg #[.string su, .string bo, .slice A2 (ps.map cv).length c2]) ∧ Own w0 w' [Chunk.frz w1 S, R] ∧ Below w0.heap.size w0 w1 ∧ Kd.F KQ w1 (okF w0 S) A2 (ps.map cv).length (ps.map cv) ∧ (ps.map cv).length ≤ c2 := by
  obtain ⟨k, hk⟩ := of_ev su bo ps hz
  have hF := Kd.F_below (Kd.C_F KP_heap hr) HO.below
  refine (colloquylaw20_of.calls k su bo _ A c ps _ _ _ w (Kd.V_mk hc hF) (hk k (Nat.le_refl _))).mono ?_
  rintro e w' ⟨v, rfl, hN, hb⟩
  obtain ⟨A2, c2, rfl⟩ := Kd.N_slice hN
  exact ⟨A2, c2, w', _, rfl, frz_new HO hb, (HO.after hb).below, Kd.F_mono (Kd.F_bound (Kd.N_F hN)) (fun k hk => hk.1.elim .inl fun h => .inr ⟨h, hk.2⟩), (Kd.N_reads' hN).2.1⟩
theorem of_frz (w0 w w1 : World) (R : Chunk) (S : Nat → Prop) (A : Option Addr) (c : Nat) (su bo : ByteArray) (ps : List PP) (hz : szP ps) (hb1 : Below w0.heap.size w0 w1) (hF : Kd.F KP w1 (okF w0 S) A ps.length ps) (hc : ps.length ≤ c) (HO : Own w0 w [R, Chunk.frz w1 S]) : Calls Tryd.prog 11 #[.agg #[.string su, .string bo, .slice A ps.length c]] w fun e w' => ∃ (A2 : Option Addr) (c2 : Nat) (w2 : World) (S2 : Nat → Prop), e = .returned (.agg #[.string su, .string bo, .slice A2 (ps.map cv).length c2]) ∧ Own w0 w' [R, Chunk.frz w2 S2] ∧ Below w0.heap.size w0 w2 ∧ Kd.F KP w2 (okF w0 S2) A ps.length ps ∧ Kd.F KQ w2 (okF w0 S2) A2 (ps.map cv).length (ps.map cv) ∧ (ps.map cv).length ≤ c2 := by
  obtain ⟨k, hk⟩ := of_ev su bo ps hz
  have hF2 := frz_F HO (i := 1) rfl hb1 hF
  refine (colloquylaw20_of.calls k su bo _ A c ps _ _ _ w (Kd.V_mk hc hF2) (hk k (Nat.le_refl _))).mono ?_
  rintro e w' ⟨v, rfl, hN, hb⟩
  obtain ⟨A2, c2, rfl⟩ := Kd.N_slice hN
  exact ⟨A2, c2, w', _, rfl, frz_grow HO 1 rfl hb, (HO.after hb).below, Kd.F_mono (Kd.F_below hF2 hb) (fun k hk => hk.elim .inl fun h => .inr (.inl h)), Kd.F_mono (Kd.F_bound (Kd.N_F hN)) (fun k hk => hk.1.elim (fun h => h.elim .inl fun h => .inr (.inl h)) fun h => .inr (.inr ⟨h, hk.2⟩)), (Kd.N_reads' hN).2.1⟩
abbrev firstL : List PP := [⟨⟨#[103]⟩, [⟨⟨#[116]⟩, 1⟩]⟩]
theorem first_frz (w0 w : World) (R : Chunk) (HO : Own w0 w [R]) : Calls Tryd.prog 21 #[] w fun e w' => ∃ (A2 : Option Addr) (c2 : Nat) (w1 : World) (S : Nat → Prop), e = .returned (.agg #[.string ⟨#[115]⟩, .string ⟨#[98]⟩, .slice A2 firstL.length c2]) ∧ Own w0 w' [Chunk.frz w1 S, R] ∧ Below w0.heap.size w0 w1 ∧ Kd.F KP w1 (okF w0 S) A2 firstL.length firstL ∧ firstL.length ≤ c2 := by
  refine (colloquylaw20_first.calls _ _ _ w rfl).mono ?_
  rintro e w' ⟨v, rfl, hN, hb⟩
  obtain ⟨A2, c2, rfl⟩ := Kd.N_slice hN
  exact ⟨A2, c2, w', _, rfl, frz_new HO hb, (HO.after hb).below, Kd.F_mono (Kd.F_bound (Kd.N_F hN)) (fun k hk => .inr ⟨hk.1, hk.2⟩), (Kd.N_reads' hN).2.1⟩
theorem parse_frz (w0 w : World) (R : Chunk) (s : ByteArray) (hs : s.size ≤ 100000000) (hL : LaidW w0) (HO : Own w0 w [R]) : Calls Tryd.prog 18 #[.string s] w fun e w' => ∃ (A2 : Option Addr) (c2 : Nat) (w1 : World) (S : Nat → Prop), e = .returned (.tuple #[.agg #[.string (outS s).1, .string (outS s).2.1, .slice A2 (outS s).2.2.length c2], .int .i64 (codeP s), .int .i64 (parseP s).2]) ∧ Own w0 w' [Chunk.frz w1 S, R] ∧ Below w0.heap.size w0 w1 ∧ Kd.F KP w1 (okF w0 S) A2 (outS s).2.2.length (outS s).2.2 ∧ (outS s).2.2.length ≤ c2 := by
  refine (parse_calls s w hs (hL.own HO)).mono ?_
  rintro e w' ⟨A2, c2, S, rfl, ho⟩
  have h1 := HO.fresh ho
  obtain ⟨h2, h3, h4, h5⟩ := frz_view h1 0 rfl
  exact ⟨A2, c2, w', S, rfl, h2, h5, h3, h4⟩
end
section
theorem told_yes {s su bo : ByteArray} {l : List PP} (h : parseP s = (some (su, bo, l), 0)) : outS s = (su, bo, l) ∧ codeP s = 0 ∧ (parseP s).2 = 0 := by
  unfold outS codeP
  rw [h]
  exact ⟨rfl, rfl, rfl⟩
theorem parse_told (w0 w : World) (R : Chunk) (s su bo : ByteArray) (l : List PP) (code at_ : Int) (h : outS s = (su, bo, l) ∧ codeP s = code ∧ (parseP s).2 = at_) (hs : s.size ≤ 100000000) (hL : LaidW w0) (HO : Own w0 w [R]) : Calls Tryd.prog 18 #[.string s] w fun e w' => ∃ (A2 : Option Addr) (c2 : Nat) (w1 : World) (S : Nat → Prop), e = .returned (.tuple #[.agg #[.string su, .string bo, .slice A2 l.length c2], .int .i64 code, .int .i64 at_]) ∧ Own w0 w' [Chunk.frz w1 S, R] ∧ Below w0.heap.size w0 w1 ∧ Kd.F KP w1 (okF w0 S) A2 l.length l ∧ l.length ≤ c2 := by
  have := parse_frz w0 w R s hs hL HO
  rw [h.1, h.2.1, h.2.2] at this
  exact this
end
theorem firstL_sz : szP firstL := ⟨by decide, by decide⟩
theorem dec_one : Lib.decDigits 1 = [49] := by rw [Lib.decDigits, dif_pos (by decide)]; rfl
abbrev sB : ByteArray := ⟨#[115]⟩
abbrev bB : ByteArray := ⟨#[98]⟩
abbrev oneB : ByteArray := ⟨#[84, 101, 115, 116, 32, 114, 117, 110, 32, 111, 102, 32, 115, 10, 66, 111, 97, 114, 100, 32, 98, 10, 103, 114, 111, 117, 112, 32, 103, 10, 80, 65, 83, 83, 58, 32, 116, 10, 35, 32, 80, 65, 83, 83, 32, 49, 10, 35, 32, 101, 110, 100, 10]⟩
theorem right_one : rightS sB bB firstL = true := by decide +kernel
theorem tots_one : totsL firstL 8 = [(⟨#[35, 32]⟩ : ByteArray) ++ vtB 1 ++ (⟨#[32]⟩ : ByteArray) ++ itB (totL firstL 1)] := rfl
theorem it_one : itB (totL firstL 1) = ⟨#[49]⟩ := by
  show itB 1 = _
  unfold itB Lib.itoa
  rw [if_neg (by decide), show (1 : Int).toNat = 1 from rfl, dec_one]
theorem text_one : textL sB bB firstL = oneB := by
  unfold textL linesL
  rw [if_pos right_one, tots_one, it_one]
  decide +kernel
end
namespace GText_
theorem text_calls (su bo : ByteArray) (A0 : Option Addr) (c0 : Nat) (ps : List S46) (w : World) (hr : Kd.C k46 w A0 ps.length ps) (hc : ps.length ≤ c0) (hsm : ps.length + sumL ps ≤ 1000000000) (hL : LaidW w) (hz : szP ps) :
    Calls Tryd.prog 16 #[.agg #[.string su, .string bo, .slice A0 ps.length c0]] w fun e w' => e = .returned (.string (textL su bo ps)) ∧ Below w.heap.size w w' := by
 have hpl := len_C hr
 have hll := lines_len su bo ps
 have hcz : (catL (linesL su bo ps)).size ≤ 140737488355328 := by have h_ := cat_size _ (line_sz su bo ps (by omega)); omega
 refine gw_start (N := 10) (vs := [.agg #[.string su, .string bo, .slice A0 ps.length c0]]) Tryd.func16 rfl rfl (by simp) fun a HF HO => ?_
 replace HO : Own w w [] := HO
 refine gR fun K1 hK1 => ?_
 refine gw_new HF HO (want_none rfl) rfl (by decide) (op_box rfl (HF.ev rfl)) ?_
 intro g2 _ w4 H5 O6; clear HF HO
 have O7 : Own w w4 [Bk g2 [.string su, .string bo, .slice A0 ps.length c0] 24] := O6
 clear O6
 refine Vc H5 fun _ H9 => ?_
 refine gE hK1 ?_
 refine gw_seq fun K10 hK10 => ?_
 refine gR fun K11 hK11 => ?_
 refine V H9 (op_loadn gwagg24 gwsiz24 rfl (H9.ev rfl) (O7.get 0 rfl) rfl rfl) fun _ H13 => ?_
 clear H5 H9
 refine Wk H13 Tryd.func14 rfl (ar_cons (H13.ev rfl) ar_nil) (right_calls A0 c0 su bo ps _ hz (Kd.C_below hr O7.below) hc) ?_
 rintro e14 w15 ⟨rfl, hb16⟩
 refine ⟨_, rfl, fun _ H18 => ?_⟩
 have O19 := O7.after hb16
 clear H13 O7 hb16
 refine V H18 (op_not rfl (H18.ev rfl)) fun _ H22 => ?_
 refine gE hK11 ?_
 clear H18
 refine gw_cond H22 rfl (fun hb23 => ?_) (fun hb23 => ?_)
 ·
  have H24 := H22.subst_ (d := 5) (b := true) rfl hb23
  clear H22
  (try simp only [Bool.and_eq_true, Bool.and_eq_false_iff, Bool.not_and, Bool.or_eq_true, Bool.or_eq_false_iff, Bool.not_or, Bool.not_not, Bool.not_eq_true', Bool.not_eq_false', Bool.not_eq_true, Bool.not_eq_false] at hb23)
  have hno : rightS su bo ps = false := by have hb_ := hb23; revert hb_; cases rightS su bo ps <;> simp
  refine gR fun K25 hK25 => ?_
  refine Vc H24 fun _ H27 => ?_
  refine gE hK25 ?_
  refine wp_ret ?_
  clear H24
  refine gw_thr ?_
  refine gw_ret1 H27 rfl rfl ?_
  exact ⟨by unfold textL; rw [if_neg (by rw [hno]; decide)], O19.below⟩
 have H28 := H22.subst_ (d := 5) (b := false) rfl hb23
 clear H22
 (try simp only [Bool.and_eq_true, Bool.and_eq_false_iff, Bool.not_and, Bool.or_eq_true, Bool.or_eq_false_iff, Bool.not_or, Bool.not_not, Bool.not_eq_true', Bool.not_eq_false', Bool.not_eq_true, Bool.not_eq_false] at hb23)
 have hyes : rightS su bo ps = true := by have hb_ := hb23; revert hb_; cases rightS su bo ps <;> simp
 refine gS hK10 ?_
 refine gR fun K29 hK29 => ?_
 refine V H28 (op_loadn gwagg24 gwsiz24 rfl (H28.ev rfl) (O19.get 0 rfl) rfl rfl) fun _ H31 => ?_
 clear H28
 refine Wk H31 Tryd.func28 rfl (ar_cons (H31.ev rfl) ar_nil) (lines_calls su bo A0 c0 ps _ (Kd.C_below hr O19.below) hc hsm (hL.own O19)) ?_
 rintro e35 w36 ⟨A32, c33, S34, rfl, hb37⟩
 refine ⟨_, rfl, fun _ H39 => ?_⟩
 have O40 := O19.fresh hb37
 have hbel41 := O19.below
 clear H31 O19 hb37
 have O42 := O40.lowrow 0 rfl (base' := w.heap.size) (Below.size hbel41)
 refine Wk H39 Tryd.func27 rfl (ar_cons (H39.ev rfl) (ar_cons (ev_c _ _) ar_nil)) (join_row (O42.get 0 rfl) (by intro h_; have h2_ := lines_len su bo ps; rw [h_] at h2_; simp at h2_) (by have h2_ := lines_len su bo ps; omega) hcz) ?_
 rintro e43 w44 ⟨rfl, hb45⟩
 refine ⟨_, rfl, fun _ H47 => ?_⟩
 have O48 := O42.after hb45
 clear H39 O42 hb45
 refine V H47 (op_cats rfl (H47.ev rfl) (ev_c _ _) (by have h_ : (joinB (linesL su bo ps)).size = (Lib.join ((linesL su bo ps).map (·.data.toList)) [10]).length := List.size_toArray ..; have h2_ := join_size (linesL su bo ps) (by intro h3_; rw [h3_] at hll; simp at hll); show (joinB (linesL su bo ps)).size + 1 ≤ _; omega)) fun _ H51 => ?_
 refine Va H51 fun _ H53 => ?_
 refine gE hK29 ?_
 refine wp_ret ?_
 clear H47 H51
 refine gw_ret1 H53 rfl rfl ?_
 exact ⟨by unfold textL; rw [if_pos hyes, ← join_cat (linesL su bo ps) (by intro h3_; rw [h3_] at hll; simp at hll)], O48.below⟩
end GText_
export GText_ (text_calls)
namespace GAlive_
theorem alive_walk (w : World) (hL : LaidW w) :
    Calls Tryd.prog 9 #[] w fun e w' => e = .returned (.bool true) ∧ Below w.heap.size w w' := by
 refine gw_start (N := 36) (vs := []) Tryd.func9 rfl rfl (by simp) fun a HF HO => ?_
 replace HO : Own w w [] := HO
 refine gR fun K1 hK1 => ?_
 refine Vc HF ?_
 intro _ H3; clear HF
 refine gE hK1 ?_
 refine gR fun K4 hK4 => ?_
 have O19 : Own w _ [(Chunk.all [])] := Own.bundle (HO.sel [] (by decide))
 refine Wk H3 Tryd.func21 rfl ar_nil (first_frz w _ (Chunk.all []) O19) ?_
 rintro e13 w14 ⟨A5, c6, wz7, S8, rfl, hb15, hbz9, hFz10, hlz11⟩
 refine ⟨_, rfl, fun _ H17 => ?_⟩
 have O18 : Own w w14 [Chunk.frz wz7 S8] := Own.unbundle (hb15.sel [1, 0] (by decide))
 clear O19
 clear H3 HO hb15
 refine Wk H17 Tryd.func16 rfl (ar_cons (H17.ev rfl) ar_nil) (text_calls (⟨#[115]⟩ : ByteArray) (⟨#[98]⟩ : ByteArray) A5 c6 firstL _ (frz_C (i := 0) O18 rfl hbz9 hFz10) hlz11 (by decide : firstL.length + sumL firstL ≤ 1000000000) (hL.own O18) firstL_sz) ?_
 rintro e21 w22 ⟨rfl, hb23⟩
 refine ⟨_, rfl, fun _ H25 => ?_⟩
 have O26 := O18.after hb23
 clear H17 O18 hb23
 refine Va H25 fun _ H29 => ?_
 refine gE hK4 ?_
 refine gR fun K30 hK30 => ?_
 refine Vm H29 fun _ H32 => ?_
 clear H25 H29
 have O47 : Own w _ [(Chunk.all [Chunk.frz wz7 S8])] := Own.bundle (O26.sel [0] (by decide))
 refine Wk H32 Tryd.func18 rfl (ar_cons (H32.ev rfl) ar_nil) (parse_told w _ (Chunk.all [Chunk.frz wz7 S8]) (textL (⟨#[115]⟩ : ByteArray) (⟨#[98]⟩ : ByteArray) firstL) (⟨#[115]⟩ : ByteArray) (⟨#[98]⟩ : ByteArray) firstL 0 0 (told_yes (parse_text _ _ _ right_one)) (by rw [text_one]; decide) hL O47) ?_
 rintro e41 w42 ⟨A33, c34, wz35, S36, rfl, hb43, hbz37, hFz38, hlz39⟩
 refine ⟨_, rfl, fun _ H45 => ?_⟩
 have O46 : Own w w42 [Chunk.frz wz7 S8, Chunk.frz wz35 S36] := Own.unbundle (hb43.sel [1, 0] (by decide))
 clear O47
 clear H32 O26 hb43
 refine Vm H45 fun _ H50 => ?_
 refine Vx H50 fun _ H52 => ?_
 refine Vx H52 fun _ H54 => ?_
 refine Vx H54 fun _ H56 => ?_
 clear H45 H50 H52 H54
 refine gw_new H56 O46 (want_none rfl) rfl (by decide) (op_alloc gwzer24 rfl) ?_
 intro g57 _ w59 H60 O61; clear H56 O46
 have O62 : Own w w59 [Bk g57 [.string (⟨#[]⟩ : ByteArray), .string (⟨#[]⟩ : ByteArray), .slice none 0 0] 24, Chunk.frz wz7 S8, Chunk.frz wz35 S36] := O61
 clear O61
 refine gw_setn 0 H60 O62 rfl (want_none rfl) rfl (op_storen gwsiz24 rfl (H60.ev rfl) (H60.ev rfl) (O62.get 0 rfl) rfl (by simp) (by simp [Value.oneCell'])) ?_
 intro _ w65 H64 O66; clear H60 O62
 refine Va H64 fun _ H68 => ?_
 refine Va H68 fun _ H70 => ?_
 refine gE hK30 ?_
 refine gR fun K71 hK71 => ?_
 refine Vm H70 fun _ H73 => ?_
 refine V H73 (op_eqs rfl (H73.ev rfl) (ev_c _ _)) fun _ H75 => ?_
 clear H64 H68 H70 H73
 have H76 := H75.lit (b := true) (by rw [text_one]; simp)
 clear H75
 refine Vm H76 fun _ H78 => ?_
 refine V2 H78 (want_yes H78 rfl rfl rfl rfl) (op_move rfl (H78.ev rfl)) fun _ H80 => ?_
 refine V2 H80 (want_yes H80 rfl rfl rfl rfl) (op_eqi rfl (H80.ev rfl) (ev_c _ _)) fun _ H82 => ?_
 clear H76 H78 H80
 have H83 := H82.lit (b := true) (by decide)
 clear H82
 refine V H83 (op_pick_t rfl (H83.ev rfl) (H83.ev rfl)) fun _ H85 => ?_
 refine Vm H85 fun _ H87 => ?_
 refine V2 H87 (want_yes H87 rfl rfl rfl rfl) (op_loadn gwagg24 gwsiz24 rfl (H87.ev rfl) (O66.get 0 rfl) rfl rfl) fun _ H89 => ?_
 clear H83 H85 H87
 have O103 : Own w _ [(Chunk.all [Bk g57 [.string (⟨#[115]⟩ : ByteArray), .string (⟨#[98]⟩ : ByteArray), .slice A33 firstL.length c34] 24, Chunk.frz wz7 S8]), Chunk.frz wz35 S36] := Own.bundle (O66.sel [0, 1, 2] (by decide))
 refine gw_call H89 (want_yes H89 rfl rfl rfl rfl) rfl (by decide) (op_callL Tryd.func11 (by kernel_rfl) rfl rfl (ar_cons (H89.ev rfl) ar_nil)) (of_frz w _ wz35 (Chunk.all [Bk g57 [.string (⟨#[115]⟩ : ByteArray), .string (⟨#[98]⟩ : ByteArray), .slice A33 firstL.length c34] 24, Chunk.frz wz7 S8]) S36 A33 c34 (⟨#[115]⟩ : ByteArray) (⟨#[98]⟩ : ByteArray) firstL firstL_sz hbz37 hFz38 hlz39 O103) ?_
 rintro e97 w98 ⟨A90, c91, wz92, S93, rfl, hb99, hbz94, hFz38, hFz95, hlz96⟩
 refine ⟨_, rfl, fun _ H101 => ?_⟩
 have O102 : Own w w98 [Bk g57 [.string (⟨#[115]⟩ : ByteArray), .string (⟨#[98]⟩ : ByteArray), .slice A33 firstL.length c34] 24, Chunk.frz wz7 S8, Chunk.frz wz92 S93] := Own.unbundle (hb99.sel [0, 1] (by decide))
 clear O103
 clear H89 O66 hb99
 have O119 : Own w _ [(Chunk.all [Bk g57 [.string (⟨#[115]⟩ : ByteArray), .string (⟨#[98]⟩ : ByteArray), .slice A33 firstL.length c34] 24, Chunk.frz wz7 S8, Chunk.frz wz92 S93])] := Own.bundle (O102.sel [0, 1, 2] (by decide))
 refine gw_call H101 (want_yes H101 rfl rfl rfl rfl) rfl (by decide) (op_callL Tryd.func21 (by kernel_rfl) rfl rfl ar_nil) (first_frz w _ (Chunk.all [Bk g57 [.string (⟨#[115]⟩ : ByteArray), .string (⟨#[98]⟩ : ByteArray), .slice A33 firstL.length c34] 24, Chunk.frz wz7 S8, Chunk.frz wz92 S93]) O119) ?_
 rintro e113 w114 ⟨A105, c106, wz107, S108, rfl, hb115, hbz109, hFz110, hlz111⟩
 refine ⟨_, rfl, fun _ H117 => ?_⟩
 have O118 : Own w w114 [Bk g57 [.string (⟨#[115]⟩ : ByteArray), .string (⟨#[98]⟩ : ByteArray), .slice A33 firstL.length c34] 24, Chunk.frz wz7 S8, Chunk.frz wz92 S93, Chunk.frz wz107 S108] := Own.unbundle (hb115.sel [1, 0] (by decide))
 clear O119
 clear H101 O102 hb115
 have O134 : Own w _ [(Chunk.all [Bk g57 [.string (⟨#[115]⟩ : ByteArray), .string (⟨#[98]⟩ : ByteArray), .slice A33 firstL.length c34] 24, Chunk.frz wz7 S8, Chunk.frz wz92 S93]), Chunk.frz wz107 S108] := Own.bundle (O118.sel [0, 1, 2, 3] (by decide))
 refine gw_call H117 (want_yes H117 rfl rfl rfl rfl) rfl (by decide) (op_callL Tryd.func11 (by kernel_rfl) rfl rfl (ar_cons (H117.ev rfl) ar_nil)) (of_frz w _ wz107 (Chunk.all [Bk g57 [.string (⟨#[115]⟩ : ByteArray), .string (⟨#[98]⟩ : ByteArray), .slice A33 firstL.length c34] 24, Chunk.frz wz7 S8, Chunk.frz wz92 S93]) S108 A105 c106 (⟨#[115]⟩ : ByteArray) (⟨#[98]⟩ : ByteArray) firstL firstL_sz hbz109 hFz110 hlz111 O134) ?_
 rintro e128 w129 ⟨A121, c122, wz123, S124, rfl, hb130, hbz125, hFz110, hFz126, hlz127⟩
 refine ⟨_, rfl, fun _ H132 => ?_⟩
 have O133 : Own w w129 [Bk g57 [.string (⟨#[115]⟩ : ByteArray), .string (⟨#[98]⟩ : ByteArray), .slice A33 firstL.length c34] 24, Chunk.frz wz7 S8, Chunk.frz wz92 S93, Chunk.frz wz123 S124] := Own.unbundle (hb130.sel [0, 1] (by decide))
 clear O134
 clear H117 O118 hb130
 refine gw_call H132 (want_yes H132 rfl rfl rfl rfl) rfl (by decide) (op_callL Tryd.func20 (by kernel_rfl) rfl rfl (ar_cons (H132.ev rfl) (ar_cons (H132.ev rfl) ar_nil))) (same_calls A90 A121 c91 c122 (⟨#[115]⟩ : ByteArray) (⟨#[98]⟩ : ByteArray) firstL _ firstL_sz (frz_C (i := 2) O133 rfl hbz94 hFz95) hlz96 (frz_C (i := 3) O133 rfl hbz125 hFz126) hlz127) ?_
 rintro e136 w137 ⟨rfl, hb138⟩
 refine ⟨_, rfl, fun _ H140 => ?_⟩
 have O141 := O133.after hb138
 clear H132 O133 hb138
 refine V H140 (op_pick_t rfl (H140.ev rfl) (H140.ev rfl)) fun _ H144 => ?_
 refine Vm H144 fun _ H146 => ?_
 refine V2 H146 (want_yes H146 rfl rfl rfl rfl) (op_loadn gwagg24 gwsiz24 rfl (H146.ev rfl) (O141.get 0 rfl) rfl rfl) fun _ H148 => ?_
 clear H140 H144 H146
 refine gw_call H148 (want_yes H148 rfl rfl rfl rfl) rfl (by decide) (op_callL Tryd.func12 (by kernel_rfl) rfl rfl (ar_cons (H148.ev rfl) ar_nil)) (totals_calls (⟨#[115]⟩ : ByteArray) (⟨#[98]⟩ : ByteArray) A33 c34 firstL _ (frz_C (i := 2) O141 rfl hbz94 hFz38) hlz39 (by decide : sumL firstL ≤ 1000000000)) ?_
 rintro e149 w150 ⟨rfl, hb151⟩
 refine ⟨_, rfl, fun _ H153 => ?_⟩
 have O154 := O141.after hb151
 clear H148 O141 hb151
 refine V2 H153 (want_yes H153 rfl rfl rfl rfl) (op_aidx Tryd.underlying31 gwsiz3 gwagg3 rfl (H153.ev rfl) (ev_c _ _) (by decide) rfl) fun _ H157 => ?_
 refine V2 H157 (want_yes H157 rfl rfl rfl rfl) (op_eqi rfl (H157.ev rfl) (ev_c _ _)) fun _ H159 => ?_
 clear H153 H157
 have H160 := H159.lit (b := true) (by decide)
 clear H159
 refine V H160 (op_pick_t rfl (H160.ev rfl) (H160.ev rfl)) fun _ H162 => ?_
 refine Vm H162 fun _ H164 => ?_
 refine V2 H164 (want_yes H164 rfl rfl rfl rfl) (op_loadn gwagg24 gwsiz24 rfl (H164.ev rfl) (O154.get 0 rfl) rfl rfl) fun _ H166 => ?_
 clear H160 H162 H164
 refine gw_call H166 (want_yes H166 rfl rfl rfl rfl) rfl (by decide) (op_callL Tryd.func14 (by kernel_rfl) rfl rfl (ar_cons (H166.ev rfl) ar_nil)) (right_calls A33 c34 (⟨#[115]⟩ : ByteArray) (⟨#[98]⟩ : ByteArray) firstL _ firstL_sz (frz_C (i := 2) O154 rfl hbz94 hFz38) hlz39) ?_
 rintro e167 w168 ⟨rfl, hb169⟩
 refine ⟨_, rfl, fun _ H171 => ?_⟩
 have O172 := O154.after hb169
 clear H166 O154 hb169
 have H174 := H171.lit (b := true) (by exact right_one)
 clear H171
 refine V H174 (op_pick_t rfl (H174.ev rfl) (H174.ev rfl)) fun _ H176 => ?_
 refine Va H176 fun _ H178 => ?_
 refine gE hK71 ?_
 refine wp_ret ?_
 clear H174 H176
 refine gw_ret1 H178 rfl rfl ?_
 exact ⟨rfl, O172.below⟩
end GAlive_
export GAlive_ (alive_walk)
namespace GTexts_
theorem texts_walk (su bo : ByteArray) (A0 : Option Addr) (c0 : Nat) (ps : List S46) (w : World) (hr : Kd.C k46 w A0 ps.length ps) (hc : ps.length ≤ c0) (hz : szP ps) (hL : LaidW w) :
    Calls Tryd.prog 3 #[.agg #[.string su, .string bo, .slice A0 ps.length c0]] w fun e w' => e = .returned (.bool true) ∧ Below w.heap.size w w' := by
 have hpl := len_C hr
 refine gw_start (N := 38) (vs := [.agg #[.string su, .string bo, .slice A0 ps.length c0]]) Tryd.func3 rfl rfl (by simp) fun a HF HO => ?_
 replace HO : Own w w [] := HO
 refine gR fun K1 hK1 => ?_
 refine gw_new HF HO (want_none rfl) rfl (by decide) (op_box rfl (HF.ev rfl)) ?_
 intro g2 _ w4 H5 O6; clear HF HO
 have O7 : Own w w4 [Bk g2 [.string su, .string bo, .slice A0 ps.length c0] 24] := O6
 clear O6
 refine Vc H5 fun _ H9 => ?_
 refine gE hK1 ?_
 refine gw_seq fun K10 hK10 => ?_
 refine gR fun K11 hK11 => ?_
 clear H5
 refine Wk H9 Tryd.func9 rfl ar_nil (alive_walk _ (hL.own O7)) ?_
 rintro e12 w13 ⟨rfl, hb14⟩
 refine ⟨_, rfl, fun _ H16 => ?_⟩
 have O17 := O7.after hb14
 clear H9 O7 hb14
 refine V H16 (op_not rfl (H16.ev rfl)) fun _ H20 => ?_
 refine gE hK11 ?_
 clear H16
 refine gw_cond H20 rfl (fun hb21 => ?_) (fun hb21 => ?_)
 ·
  cases hb21
 refine gS hK10 ?_
 refine gw_seq fun K22 hK22 => ?_
 refine gR fun K23 hK23 => ?_
 refine V H20 (op_loadn gwagg24 gwsiz24 rfl (H20.ev rfl) (O17.get 0 rfl) rfl rfl) fun _ H25 => ?_
 clear H20
 refine Wk H25 Tryd.func10 rfl (ar_cons (H25.ev rfl) ar_nil) (few_calls A0 c0 su bo ps _ hz (Kd.C_below hr O17.below) hc) ?_
 rintro e26 w27 ⟨rfl, hb28⟩
 refine ⟨_, rfl, fun _ H30 => ?_⟩
 have O31 := O17.after hb28
 clear H25 O17 hb28
 refine V H30 (op_not rfl (H30.ev rfl)) fun _ H34 => ?_
 refine gE hK23 ?_
 clear H30
 refine gw_cond H34 rfl (fun hb35 => ?_) (fun hb35 => ?_)
 ·
  have H36 := H34.subst_ (d := 10) (b := true) rfl hb35
  clear H34
  (try simp only [Bool.and_eq_true, Bool.and_eq_false_iff, Bool.not_and, Bool.or_eq_true, Bool.or_eq_false_iff, Bool.not_or, Bool.not_not, Bool.not_eq_true', Bool.not_eq_false', Bool.not_eq_true, Bool.not_eq_false, decide_eq_true_eq, decide_eq_false_iff_not, Int.not_le] at hb35)
  refine gR fun K37 hK37 => ?_
  refine Vc H36 fun _ H39 => ?_
  refine gE hK37 ?_
  refine wp_ret ?_
  clear H36
  refine gw_thr ?_
  refine gw_ret1 H39 rfl rfl ?_
  exact ⟨rfl, O31.below⟩
 have H40 := H34.subst_ (d := 10) (b := false) rfl hb35
 clear H34
 (try simp only [Bool.and_eq_true, Bool.and_eq_false_iff, Bool.not_and, Bool.or_eq_true, Bool.or_eq_false_iff, Bool.not_or, Bool.not_not, Bool.not_eq_true', Bool.not_eq_false', Bool.not_eq_true, Bool.not_eq_false, decide_eq_true_eq, decide_eq_false_iff_not, Int.not_le] at hb35)
 have hfw : (ps.length : Int) + sumL ps ≤ 2000 := by have hb_ := hb35; simpa using hb_
 refine gS hK22 ?_
 refine gR fun K41 hK41 => ?_
 refine V H40 (op_loadn gwagg24 gwsiz24 rfl (H40.ev rfl) (O31.get 0 rfl) rfl rfl) fun _ H43 => ?_
 clear H40
 have O58 : Own w _ [(Chunk.all [Bk g2 [.string su, .string bo, .slice A0 ps.length c0] 24])] := Own.bundle (O31.sel [0] (by decide))
 refine Wk H43 Tryd.func11 rfl (ar_cons (H43.ev rfl) ar_nil) (of_arg w _ (Chunk.all [Bk g2 [.string su, .string bo, .slice A0 ps.length c0] 24]) A0 c0 su bo ps hz hr hc O58) ?_
 rintro e52 w53 ⟨A44, c45, wz46, S47, rfl, hb54, hbz48, hFz49, hlz50⟩
 refine ⟨_, rfl, fun _ H56 => ?_⟩
 have O57 : Own w w53 [Bk g2 [.string su, .string bo, .slice A0 ps.length c0] 24, Chunk.frz wz46 S47] := Own.unbundle (hb54.sel [1, 0] (by decide))
 clear O58
 clear H43 O31 hb54
 refine gw_new H56 O57 (want_none rfl) rfl (by decide) (op_alloc gwzer29 rfl) ?_
 intro g60 _ w62 H63 O64; clear H56 O57
 have O65 : Own w w62 [Bk g60 [.string (⟨#[]⟩ : ByteArray), .string (⟨#[]⟩ : ByteArray), .slice none 0 0] 29, Bk g2 [.string su, .string bo, .slice A0 ps.length c0] 24, Chunk.frz wz46 S47] := O64
 clear O64
 refine gw_setn 0 H63 O65 rfl (want_none rfl) rfl (op_storen gwsiz29 rfl (H63.ev rfl) (H63.ev rfl) (O65.get 0 rfl) rfl (by simp) (by simp [Value.oneCell'])) ?_
 intro _ w68 H67 O69; clear H63 O65
 refine gE hK41 ?_
 refine gR fun K70 hK70 => ?_
 refine V H67 (op_loadn gwagg24 gwsiz24 rfl (H67.ev rfl) (O69.get 1 rfl) rfl rfl) fun _ H72 => ?_
 clear H67
 refine Wk H72 Tryd.func12 rfl (ar_cons (H72.ev rfl) ar_nil) (totals_calls su bo A0 c0 ps _ (Kd.C_below hr O69.below) hc (by omega)) ?_
 rintro e73 w74 ⟨rfl, hb75⟩
 refine ⟨_, rfl, fun _ H77 => ?_⟩
 have O78 := O69.after hb75
 clear H72 O69 hb75
 refine gw_new H77 O78 (want_none rfl) rfl (by decide) (op_alloc gwzer31 rfl) ?_
 intro g80 _ w82 H83 O84; clear H77 O78
 have O85 : Own w w82 [Bk g80 [J 0, J 0, J 0, J 0, J 0, J 0, J 0, J 0] 31, Bk g60 [.string su, .string bo, .slice A44 ((ps.map cv).length) c45] 29, Bk g2 [.string su, .string bo, .slice A0 ps.length c0] 24, Chunk.frz wz46 S47] := O84
 clear O84
 refine gw_setn 0 H83 O85 rfl (want_none rfl) rfl (op_storen gwsiz31 rfl (H83.ev rfl) (H83.ev rfl) (O85.get 0 rfl) rfl (by simp) (by simp [Value.oneCell'])) ?_
 intro _ w88 H87 O89; clear H83 O85
 refine gE hK70 ?_
 refine gw_seq fun K90 hK90 => ?_
 refine gR fun K91 hK91 => ?_
 refine Vc H87 fun _ H93 => ?_
 refine gE hK91 ?_
 clear H87
 refine wp_block ?_
 refine gw_loop (fun m_ a_ w_ => ∃ (v : Int), Fr 38 a_ [(5, J v), (1, .pointer (some ⟨g2, 0, none⟩)), (3, .pointer (some ⟨g60, 0, none⟩)), (4, .pointer (some ⟨g80, 0, none⟩))] ∧ Own w w_ [Bk g80 [J (totL ps 0), J (totL ps 1), J (totL ps 2), J (totL ps 3), J (totL ps 4), J (totL ps 5), J (totL ps 6), J (totL ps 7)] 31, Bk g60 [.string su, .string bo, .slice A44 ((ps.map cv).length) c45] 29, Bk g2 [.string su, .string bo, .slice A0 ps.length c0] 24, Chunk.frz wz46 S47] ∧ (0 ≤ v ∧ v ≤ 8) ∧ m_ = (8 - v.toNat)) ((8 - (0 : Int).toNat)) ?_ ?_
 ·
  refine ⟨0, (H93.pick (t := 5) rfl (H93.pick (t := 1) rfl (H93.pick (t := 3) rfl (H93.pick (t := 4) rfl H93.nil)))), O89.sel [0, 1, 2, 3] (by decide), ?_, rfl⟩
  omega
 rintro m95 _ w97 ⟨v, H98, O99, hv, hm100⟩
 rcases (show v = 0 ∨ v = 1 ∨ v = 2 ∨ v = 3 ∨ v = 4 ∨ v = 5 ∨ v = 6 ∨ v = 7 ∨ v = 8 from by omega) with rfl | rfl | rfl | rfl | rfl | rfl | rfl | rfl | rfl
 ·
  refine gw_seq fun K101 hK101 => ?_
  refine gR fun K102 hK102 => ?_
  refine Vm H98 fun _ H104 => ?_
  refine V H104 (op_leq rfl (H104.ev rfl) (ev_c _ _)) fun _ H106 => ?_
  clear H98 H104
  have H107 := H106.lit (b := true) (by decide)
  clear H106
  refine gE hK102 ?_
  refine gw_cond H107 rfl (fun hb108 => ?_) (fun hb108 => ?_)
  rotate_left
  ·
   cases hb108
  refine gS hK101 ?_
  refine gw_seq fun K109 hK109 => ?_
  refine wp_block ?_
  refine gw_seq fun K110 hK110 => ?_
  refine gw_drawB O99 (by kernel_rfl) (by kernel_rfl) fun w111 O112 => ?_
  clear O99
  refine Vn H107 (op_move rfl (H107.ev rfl)) fun _ H114 => ?_
  refine Vn H114 (op_indexP (q := 0) Tryd.underlying31 gwsiz3 rfl (H114.ev rfl) (H114.ev rfl) (by decide) rfl) fun _ H116 => ?_
  refine Vq H116 (fun wq hq => have HO := O112.after hq; op_load1 gwagg3 rfl (H116.ev rfl) (blk_at (HO.get 0 rfl) rfl)) fun _ H118 => ?_
  refine Vq H118 (fun wq hq => have HO := O112.after hq; op_loadn gwagg29 gwsiz29 rfl (H118.ev rfl) (HO.get 1 rfl) rfl rfl) fun _ H120 => ?_
  refine Vn H120 (op_move rfl (H120.ev rfl)) fun _ H122 => ?_
  clear H107 H114 H116 H118 H120
  refine gq_call H122 (want_none rfl) rfl (by decide) (fun wq hq => have HO := O112.after hq; (op_callL Tryd.func13 (by kernel_rfl) rfl rfl (ar_cons (H122.ev rfl) (ar_cons (H122.ev rfl) ar_nil)))) (fun wq hq => have HO := O112.after hq; (rtotal_calls A44 c45 su bo ps 0 _ (by omega) hz (by have h_ := (by omega); omega) (frz_C (i := 3) HO rfl hbz48 hFz49) hlz50).mono fun e w' h => ⟨h.1, below_then hq h.2⟩) ?_
  intro _ H124; clear H122
  refine Vn H124 (op_nei rfl (H124.ev rfl) (H124.ev rfl)) fun _ H126 => ?_
  clear H124
  have H127 := H126.lit (b := false) (by simp)
  clear H126
  refine wpQuiet_nil ?_
  intro w128 hq
  have O129 := O112.after hq
  clear O112 hq
  refine gw_nx (hK110 _ _ ?_)
  refine gw_cond H127 rfl (fun hb130 => ?_) (fun hb130 => ?_)
  ·
   cases hb130
  refine wp_skip ?_
  refine gw_blk ?_
  refine gw_nx (hK109 _ _ ?_)
  refine wp_region_lit ?_
  refine Vm H127 fun _ H132 => ?_
  refine V H132 (op_add rfl (H132.ev rfl) (ev_c _ _) (by omega)) fun _ H134 => ?_
  refine Va H134 fun _ H136 => ?_
  clear H127 H132 H134
  refine wpList_nil ?_
  refine gw_nx ⟨_, ?_, 0 + 1, (H136.pick (t := 5) rfl (H136.pick (t := 1) rfl (H136.pick (t := 3) rfl (H136.pick (t := 4) rfl H136.nil)))), O129.sel [0, 1, 2, 3] (by decide), ?_, rfl⟩
  ·
   rw [hm100]; omega
  omega
 ·
  refine gw_seq fun K137 hK137 => ?_
  refine gR fun K138 hK138 => ?_
  refine Vm H98 fun _ H140 => ?_
  refine V H140 (op_leq rfl (H140.ev rfl) (ev_c _ _)) fun _ H142 => ?_
  clear H98 H140
  have H143 := H142.lit (b := true) (by decide)
  clear H142
  refine gE hK138 ?_
  refine gw_cond H143 rfl (fun hb144 => ?_) (fun hb144 => ?_)
  rotate_left
  ·
   cases hb144
  refine gS hK137 ?_
  refine gw_seq fun K145 hK145 => ?_
  refine wp_block ?_
  refine gw_seq fun K146 hK146 => ?_
  refine gw_drawB O99 (by kernel_rfl) (by kernel_rfl) fun w147 O148 => ?_
  clear O99
  refine Vn H143 (op_move rfl (H143.ev rfl)) fun _ H150 => ?_
  refine Vn H150 (op_indexP (q := 1) Tryd.underlying31 gwsiz3 rfl (H150.ev rfl) (H150.ev rfl) (by decide) rfl) fun _ H152 => ?_
  refine Vq H152 (fun wq hq => have HO := O148.after hq; op_load1 gwagg3 rfl (H152.ev rfl) (blk_at (HO.get 0 rfl) rfl)) fun _ H154 => ?_
  refine Vq H154 (fun wq hq => have HO := O148.after hq; op_loadn gwagg29 gwsiz29 rfl (H154.ev rfl) (HO.get 1 rfl) rfl rfl) fun _ H156 => ?_
  refine Vn H156 (op_move rfl (H156.ev rfl)) fun _ H158 => ?_
  clear H143 H150 H152 H154 H156
  refine gq_call H158 (want_none rfl) rfl (by decide) (fun wq hq => have HO := O148.after hq; (op_callL Tryd.func13 (by kernel_rfl) rfl rfl (ar_cons (H158.ev rfl) (ar_cons (H158.ev rfl) ar_nil)))) (fun wq hq => have HO := O148.after hq; (rtotal_calls A44 c45 su bo ps 1 _ (by omega) hz (by have h_ := (by omega); omega) (frz_C (i := 3) HO rfl hbz48 hFz49) hlz50).mono fun e w' h => ⟨h.1, below_then hq h.2⟩) ?_
  intro _ H160; clear H158
  refine Vn H160 (op_nei rfl (H160.ev rfl) (H160.ev rfl)) fun _ H162 => ?_
  clear H160
  have H163 := H162.lit (b := false) (by simp)
  clear H162
  refine wpQuiet_nil ?_
  intro w164 hq
  have O165 := O148.after hq
  clear O148 hq
  refine gw_nx (hK146 _ _ ?_)
  refine gw_cond H163 rfl (fun hb166 => ?_) (fun hb166 => ?_)
  ·
   cases hb166
  refine wp_skip ?_
  refine gw_blk ?_
  refine gw_nx (hK145 _ _ ?_)
  refine wp_region_lit ?_
  refine Vm H163 fun _ H168 => ?_
  refine V H168 (op_add rfl (H168.ev rfl) (ev_c _ _) (by omega)) fun _ H170 => ?_
  refine Va H170 fun _ H172 => ?_
  clear H163 H168 H170
  refine wpList_nil ?_
  refine gw_nx ⟨_, ?_, 1 + 1, (H172.pick (t := 5) rfl (H172.pick (t := 1) rfl (H172.pick (t := 3) rfl (H172.pick (t := 4) rfl H172.nil)))), O165.sel [0, 1, 2, 3] (by decide), ?_, rfl⟩
  ·
   rw [hm100]; omega
  omega
 ·
  refine gw_seq fun K173 hK173 => ?_
  refine gR fun K174 hK174 => ?_
  refine Vm H98 fun _ H176 => ?_
  refine V H176 (op_leq rfl (H176.ev rfl) (ev_c _ _)) fun _ H178 => ?_
  clear H98 H176
  have H179 := H178.lit (b := true) (by decide)
  clear H178
  refine gE hK174 ?_
  refine gw_cond H179 rfl (fun hb180 => ?_) (fun hb180 => ?_)
  rotate_left
  ·
   cases hb180
  refine gS hK173 ?_
  refine gw_seq fun K181 hK181 => ?_
  refine wp_block ?_
  refine gw_seq fun K182 hK182 => ?_
  refine gw_drawB O99 (by kernel_rfl) (by kernel_rfl) fun w183 O184 => ?_
  clear O99
  refine Vn H179 (op_move rfl (H179.ev rfl)) fun _ H186 => ?_
  refine Vn H186 (op_indexP (q := 2) Tryd.underlying31 gwsiz3 rfl (H186.ev rfl) (H186.ev rfl) (by decide) rfl) fun _ H188 => ?_
  refine Vq H188 (fun wq hq => have HO := O184.after hq; op_load1 gwagg3 rfl (H188.ev rfl) (blk_at (HO.get 0 rfl) rfl)) fun _ H190 => ?_
  refine Vq H190 (fun wq hq => have HO := O184.after hq; op_loadn gwagg29 gwsiz29 rfl (H190.ev rfl) (HO.get 1 rfl) rfl rfl) fun _ H192 => ?_
  refine Vn H192 (op_move rfl (H192.ev rfl)) fun _ H194 => ?_
  clear H179 H186 H188 H190 H192
  refine gq_call H194 (want_none rfl) rfl (by decide) (fun wq hq => have HO := O184.after hq; (op_callL Tryd.func13 (by kernel_rfl) rfl rfl (ar_cons (H194.ev rfl) (ar_cons (H194.ev rfl) ar_nil)))) (fun wq hq => have HO := O184.after hq; (rtotal_calls A44 c45 su bo ps 2 _ (by omega) hz (by have h_ := (by omega); omega) (frz_C (i := 3) HO rfl hbz48 hFz49) hlz50).mono fun e w' h => ⟨h.1, below_then hq h.2⟩) ?_
  intro _ H196; clear H194
  refine Vn H196 (op_nei rfl (H196.ev rfl) (H196.ev rfl)) fun _ H198 => ?_
  clear H196
  have H199 := H198.lit (b := false) (by simp)
  clear H198
  refine wpQuiet_nil ?_
  intro w200 hq
  have O201 := O184.after hq
  clear O184 hq
  refine gw_nx (hK182 _ _ ?_)
  refine gw_cond H199 rfl (fun hb202 => ?_) (fun hb202 => ?_)
  ·
   cases hb202
  refine wp_skip ?_
  refine gw_blk ?_
  refine gw_nx (hK181 _ _ ?_)
  refine wp_region_lit ?_
  refine Vm H199 fun _ H204 => ?_
  refine V H204 (op_add rfl (H204.ev rfl) (ev_c _ _) (by omega)) fun _ H206 => ?_
  refine Va H206 fun _ H208 => ?_
  clear H199 H204 H206
  refine wpList_nil ?_
  refine gw_nx ⟨_, ?_, 2 + 1, (H208.pick (t := 5) rfl (H208.pick (t := 1) rfl (H208.pick (t := 3) rfl (H208.pick (t := 4) rfl H208.nil)))), O201.sel [0, 1, 2, 3] (by decide), ?_, rfl⟩
  ·
   rw [hm100]; omega
  omega
 ·
  refine gw_seq fun K209 hK209 => ?_
  refine gR fun K210 hK210 => ?_
  refine Vm H98 fun _ H212 => ?_
  refine V H212 (op_leq rfl (H212.ev rfl) (ev_c _ _)) fun _ H214 => ?_
  clear H98 H212
  have H215 := H214.lit (b := true) (by decide)
  clear H214
  refine gE hK210 ?_
  refine gw_cond H215 rfl (fun hb216 => ?_) (fun hb216 => ?_)
  rotate_left
  ·
   cases hb216
  refine gS hK209 ?_
  refine gw_seq fun K217 hK217 => ?_
  refine wp_block ?_
  refine gw_seq fun K218 hK218 => ?_
  refine gw_drawB O99 (by kernel_rfl) (by kernel_rfl) fun w219 O220 => ?_
  clear O99
  refine Vn H215 (op_move rfl (H215.ev rfl)) fun _ H222 => ?_
  refine Vn H222 (op_indexP (q := 3) Tryd.underlying31 gwsiz3 rfl (H222.ev rfl) (H222.ev rfl) (by decide) rfl) fun _ H224 => ?_
  refine Vq H224 (fun wq hq => have HO := O220.after hq; op_load1 gwagg3 rfl (H224.ev rfl) (blk_at (HO.get 0 rfl) rfl)) fun _ H226 => ?_
  refine Vq H226 (fun wq hq => have HO := O220.after hq; op_loadn gwagg29 gwsiz29 rfl (H226.ev rfl) (HO.get 1 rfl) rfl rfl) fun _ H228 => ?_
  refine Vn H228 (op_move rfl (H228.ev rfl)) fun _ H230 => ?_
  clear H215 H222 H224 H226 H228
  refine gq_call H230 (want_none rfl) rfl (by decide) (fun wq hq => have HO := O220.after hq; (op_callL Tryd.func13 (by kernel_rfl) rfl rfl (ar_cons (H230.ev rfl) (ar_cons (H230.ev rfl) ar_nil)))) (fun wq hq => have HO := O220.after hq; (rtotal_calls A44 c45 su bo ps 3 _ (by omega) hz (by have h_ := (by omega); omega) (frz_C (i := 3) HO rfl hbz48 hFz49) hlz50).mono fun e w' h => ⟨h.1, below_then hq h.2⟩) ?_
  intro _ H232; clear H230
  refine Vn H232 (op_nei rfl (H232.ev rfl) (H232.ev rfl)) fun _ H234 => ?_
  clear H232
  have H235 := H234.lit (b := false) (by simp)
  clear H234
  refine wpQuiet_nil ?_
  intro w236 hq
  have O237 := O220.after hq
  clear O220 hq
  refine gw_nx (hK218 _ _ ?_)
  refine gw_cond H235 rfl (fun hb238 => ?_) (fun hb238 => ?_)
  ·
   cases hb238
  refine wp_skip ?_
  refine gw_blk ?_
  refine gw_nx (hK217 _ _ ?_)
  refine wp_region_lit ?_
  refine Vm H235 fun _ H240 => ?_
  refine V H240 (op_add rfl (H240.ev rfl) (ev_c _ _) (by omega)) fun _ H242 => ?_
  refine Va H242 fun _ H244 => ?_
  clear H235 H240 H242
  refine wpList_nil ?_
  refine gw_nx ⟨_, ?_, 3 + 1, (H244.pick (t := 5) rfl (H244.pick (t := 1) rfl (H244.pick (t := 3) rfl (H244.pick (t := 4) rfl H244.nil)))), O237.sel [0, 1, 2, 3] (by decide), ?_, rfl⟩
  ·
   rw [hm100]; omega
  omega
 ·
  refine gw_seq fun K245 hK245 => ?_
  refine gR fun K246 hK246 => ?_
  refine Vm H98 fun _ H248 => ?_
  refine V H248 (op_leq rfl (H248.ev rfl) (ev_c _ _)) fun _ H250 => ?_
  clear H98 H248
  have H251 := H250.lit (b := true) (by decide)
  clear H250
  refine gE hK246 ?_
  refine gw_cond H251 rfl (fun hb252 => ?_) (fun hb252 => ?_)
  rotate_left
  ·
   cases hb252
  refine gS hK245 ?_
  refine gw_seq fun K253 hK253 => ?_
  refine wp_block ?_
  refine gw_seq fun K254 hK254 => ?_
  refine gw_drawB O99 (by kernel_rfl) (by kernel_rfl) fun w255 O256 => ?_
  clear O99
  refine Vn H251 (op_move rfl (H251.ev rfl)) fun _ H258 => ?_
  refine Vn H258 (op_indexP (q := 4) Tryd.underlying31 gwsiz3 rfl (H258.ev rfl) (H258.ev rfl) (by decide) rfl) fun _ H260 => ?_
  refine Vq H260 (fun wq hq => have HO := O256.after hq; op_load1 gwagg3 rfl (H260.ev rfl) (blk_at (HO.get 0 rfl) rfl)) fun _ H262 => ?_
  refine Vq H262 (fun wq hq => have HO := O256.after hq; op_loadn gwagg29 gwsiz29 rfl (H262.ev rfl) (HO.get 1 rfl) rfl rfl) fun _ H264 => ?_
  refine Vn H264 (op_move rfl (H264.ev rfl)) fun _ H266 => ?_
  clear H251 H258 H260 H262 H264
  refine gq_call H266 (want_none rfl) rfl (by decide) (fun wq hq => have HO := O256.after hq; (op_callL Tryd.func13 (by kernel_rfl) rfl rfl (ar_cons (H266.ev rfl) (ar_cons (H266.ev rfl) ar_nil)))) (fun wq hq => have HO := O256.after hq; (rtotal_calls A44 c45 su bo ps 4 _ (by omega) hz (by have h_ := (by omega); omega) (frz_C (i := 3) HO rfl hbz48 hFz49) hlz50).mono fun e w' h => ⟨h.1, below_then hq h.2⟩) ?_
  intro _ H268; clear H266
  refine Vn H268 (op_nei rfl (H268.ev rfl) (H268.ev rfl)) fun _ H270 => ?_
  clear H268
  have H271 := H270.lit (b := false) (by simp)
  clear H270
  refine wpQuiet_nil ?_
  intro w272 hq
  have O273 := O256.after hq
  clear O256 hq
  refine gw_nx (hK254 _ _ ?_)
  refine gw_cond H271 rfl (fun hb274 => ?_) (fun hb274 => ?_)
  ·
   cases hb274
  refine wp_skip ?_
  refine gw_blk ?_
  refine gw_nx (hK253 _ _ ?_)
  refine wp_region_lit ?_
  refine Vm H271 fun _ H276 => ?_
  refine V H276 (op_add rfl (H276.ev rfl) (ev_c _ _) (by omega)) fun _ H278 => ?_
  refine Va H278 fun _ H280 => ?_
  clear H271 H276 H278
  refine wpList_nil ?_
  refine gw_nx ⟨_, ?_, 4 + 1, (H280.pick (t := 5) rfl (H280.pick (t := 1) rfl (H280.pick (t := 3) rfl (H280.pick (t := 4) rfl H280.nil)))), O273.sel [0, 1, 2, 3] (by decide), ?_, rfl⟩
  ·
   rw [hm100]; omega
  omega
 ·
  refine gw_seq fun K281 hK281 => ?_
  refine gR fun K282 hK282 => ?_
  refine Vm H98 fun _ H284 => ?_
  refine V H284 (op_leq rfl (H284.ev rfl) (ev_c _ _)) fun _ H286 => ?_
  clear H98 H284
  have H287 := H286.lit (b := true) (by decide)
  clear H286
  refine gE hK282 ?_
  refine gw_cond H287 rfl (fun hb288 => ?_) (fun hb288 => ?_)
  rotate_left
  ·
   cases hb288
  refine gS hK281 ?_
  refine gw_seq fun K289 hK289 => ?_
  refine wp_block ?_
  refine gw_seq fun K290 hK290 => ?_
  refine gw_drawB O99 (by kernel_rfl) (by kernel_rfl) fun w291 O292 => ?_
  clear O99
  refine Vn H287 (op_move rfl (H287.ev rfl)) fun _ H294 => ?_
  refine Vn H294 (op_indexP (q := 5) Tryd.underlying31 gwsiz3 rfl (H294.ev rfl) (H294.ev rfl) (by decide) rfl) fun _ H296 => ?_
  refine Vq H296 (fun wq hq => have HO := O292.after hq; op_load1 gwagg3 rfl (H296.ev rfl) (blk_at (HO.get 0 rfl) rfl)) fun _ H298 => ?_
  refine Vq H298 (fun wq hq => have HO := O292.after hq; op_loadn gwagg29 gwsiz29 rfl (H298.ev rfl) (HO.get 1 rfl) rfl rfl) fun _ H300 => ?_
  refine Vn H300 (op_move rfl (H300.ev rfl)) fun _ H302 => ?_
  clear H287 H294 H296 H298 H300
  refine gq_call H302 (want_none rfl) rfl (by decide) (fun wq hq => have HO := O292.after hq; (op_callL Tryd.func13 (by kernel_rfl) rfl rfl (ar_cons (H302.ev rfl) (ar_cons (H302.ev rfl) ar_nil)))) (fun wq hq => have HO := O292.after hq; (rtotal_calls A44 c45 su bo ps 5 _ (by omega) hz (by have h_ := (by omega); omega) (frz_C (i := 3) HO rfl hbz48 hFz49) hlz50).mono fun e w' h => ⟨h.1, below_then hq h.2⟩) ?_
  intro _ H304; clear H302
  refine Vn H304 (op_nei rfl (H304.ev rfl) (H304.ev rfl)) fun _ H306 => ?_
  clear H304
  have H307 := H306.lit (b := false) (by simp)
  clear H306
  refine wpQuiet_nil ?_
  intro w308 hq
  have O309 := O292.after hq
  clear O292 hq
  refine gw_nx (hK290 _ _ ?_)
  refine gw_cond H307 rfl (fun hb310 => ?_) (fun hb310 => ?_)
  ·
   cases hb310
  refine wp_skip ?_
  refine gw_blk ?_
  refine gw_nx (hK289 _ _ ?_)
  refine wp_region_lit ?_
  refine Vm H307 fun _ H312 => ?_
  refine V H312 (op_add rfl (H312.ev rfl) (ev_c _ _) (by omega)) fun _ H314 => ?_
  refine Va H314 fun _ H316 => ?_
  clear H307 H312 H314
  refine wpList_nil ?_
  refine gw_nx ⟨_, ?_, 5 + 1, (H316.pick (t := 5) rfl (H316.pick (t := 1) rfl (H316.pick (t := 3) rfl (H316.pick (t := 4) rfl H316.nil)))), O309.sel [0, 1, 2, 3] (by decide), ?_, rfl⟩
  ·
   rw [hm100]; omega
  omega
 ·
  refine gw_seq fun K317 hK317 => ?_
  refine gR fun K318 hK318 => ?_
  refine Vm H98 fun _ H320 => ?_
  refine V H320 (op_leq rfl (H320.ev rfl) (ev_c _ _)) fun _ H322 => ?_
  clear H98 H320
  have H323 := H322.lit (b := true) (by decide)
  clear H322
  refine gE hK318 ?_
  refine gw_cond H323 rfl (fun hb324 => ?_) (fun hb324 => ?_)
  rotate_left
  ·
   cases hb324
  refine gS hK317 ?_
  refine gw_seq fun K325 hK325 => ?_
  refine wp_block ?_
  refine gw_seq fun K326 hK326 => ?_
  refine gw_drawB O99 (by kernel_rfl) (by kernel_rfl) fun w327 O328 => ?_
  clear O99
  refine Vn H323 (op_move rfl (H323.ev rfl)) fun _ H330 => ?_
  refine Vn H330 (op_indexP (q := 6) Tryd.underlying31 gwsiz3 rfl (H330.ev rfl) (H330.ev rfl) (by decide) rfl) fun _ H332 => ?_
  refine Vq H332 (fun wq hq => have HO := O328.after hq; op_load1 gwagg3 rfl (H332.ev rfl) (blk_at (HO.get 0 rfl) rfl)) fun _ H334 => ?_
  refine Vq H334 (fun wq hq => have HO := O328.after hq; op_loadn gwagg29 gwsiz29 rfl (H334.ev rfl) (HO.get 1 rfl) rfl rfl) fun _ H336 => ?_
  refine Vn H336 (op_move rfl (H336.ev rfl)) fun _ H338 => ?_
  clear H323 H330 H332 H334 H336
  refine gq_call H338 (want_none rfl) rfl (by decide) (fun wq hq => have HO := O328.after hq; (op_callL Tryd.func13 (by kernel_rfl) rfl rfl (ar_cons (H338.ev rfl) (ar_cons (H338.ev rfl) ar_nil)))) (fun wq hq => have HO := O328.after hq; (rtotal_calls A44 c45 su bo ps 6 _ (by omega) hz (by have h_ := (by omega); omega) (frz_C (i := 3) HO rfl hbz48 hFz49) hlz50).mono fun e w' h => ⟨h.1, below_then hq h.2⟩) ?_
  intro _ H340; clear H338
  refine Vn H340 (op_nei rfl (H340.ev rfl) (H340.ev rfl)) fun _ H342 => ?_
  clear H340
  have H343 := H342.lit (b := false) (by simp)
  clear H342
  refine wpQuiet_nil ?_
  intro w344 hq
  have O345 := O328.after hq
  clear O328 hq
  refine gw_nx (hK326 _ _ ?_)
  refine gw_cond H343 rfl (fun hb346 => ?_) (fun hb346 => ?_)
  ·
   cases hb346
  refine wp_skip ?_
  refine gw_blk ?_
  refine gw_nx (hK325 _ _ ?_)
  refine wp_region_lit ?_
  refine Vm H343 fun _ H348 => ?_
  refine V H348 (op_add rfl (H348.ev rfl) (ev_c _ _) (by omega)) fun _ H350 => ?_
  refine Va H350 fun _ H352 => ?_
  clear H343 H348 H350
  refine wpList_nil ?_
  refine gw_nx ⟨_, ?_, 6 + 1, (H352.pick (t := 5) rfl (H352.pick (t := 1) rfl (H352.pick (t := 3) rfl (H352.pick (t := 4) rfl H352.nil)))), O345.sel [0, 1, 2, 3] (by decide), ?_, rfl⟩
  ·
   rw [hm100]; omega
  omega
 ·
  refine gw_seq fun K353 hK353 => ?_
  refine gR fun K354 hK354 => ?_
  refine Vm H98 fun _ H356 => ?_
  refine V H356 (op_leq rfl (H356.ev rfl) (ev_c _ _)) fun _ H358 => ?_
  clear H98 H356
  have H359 := H358.lit (b := true) (by decide)
  clear H358
  refine gE hK354 ?_
  refine gw_cond H359 rfl (fun hb360 => ?_) (fun hb360 => ?_)
  rotate_left
  ·
   cases hb360
  refine gS hK353 ?_
  refine gw_seq fun K361 hK361 => ?_
  refine wp_block ?_
  refine gw_seq fun K362 hK362 => ?_
  refine gw_drawB O99 (by kernel_rfl) (by kernel_rfl) fun w363 O364 => ?_
  clear O99
  refine Vn H359 (op_move rfl (H359.ev rfl)) fun _ H366 => ?_
  refine Vn H366 (op_indexP (q := 7) Tryd.underlying31 gwsiz3 rfl (H366.ev rfl) (H366.ev rfl) (by decide) rfl) fun _ H368 => ?_
  refine Vq H368 (fun wq hq => have HO := O364.after hq; op_load1 gwagg3 rfl (H368.ev rfl) (blk_at (HO.get 0 rfl) rfl)) fun _ H370 => ?_
  refine Vq H370 (fun wq hq => have HO := O364.after hq; op_loadn gwagg29 gwsiz29 rfl (H370.ev rfl) (HO.get 1 rfl) rfl rfl) fun _ H372 => ?_
  refine Vn H372 (op_move rfl (H372.ev rfl)) fun _ H374 => ?_
  clear H359 H366 H368 H370 H372
  refine gq_call H374 (want_none rfl) rfl (by decide) (fun wq hq => have HO := O364.after hq; (op_callL Tryd.func13 (by kernel_rfl) rfl rfl (ar_cons (H374.ev rfl) (ar_cons (H374.ev rfl) ar_nil)))) (fun wq hq => have HO := O364.after hq; (rtotal_calls A44 c45 su bo ps 7 _ (by omega) hz (by have h_ := (by omega); omega) (frz_C (i := 3) HO rfl hbz48 hFz49) hlz50).mono fun e w' h => ⟨h.1, below_then hq h.2⟩) ?_
  intro _ H376; clear H374
  refine Vn H376 (op_nei rfl (H376.ev rfl) (H376.ev rfl)) fun _ H378 => ?_
  clear H376
  have H379 := H378.lit (b := false) (by simp)
  clear H378
  refine wpQuiet_nil ?_
  intro w380 hq
  have O381 := O364.after hq
  clear O364 hq
  refine gw_nx (hK362 _ _ ?_)
  refine gw_cond H379 rfl (fun hb382 => ?_) (fun hb382 => ?_)
  ·
   cases hb382
  refine wp_skip ?_
  refine gw_blk ?_
  refine gw_nx (hK361 _ _ ?_)
  refine wp_region_lit ?_
  refine Vm H379 fun _ H384 => ?_
  refine V H384 (op_add rfl (H384.ev rfl) (ev_c _ _) (by omega)) fun _ H386 => ?_
  refine Va H386 fun _ H388 => ?_
  clear H379 H384 H386
  refine wpList_nil ?_
  refine gw_nx ⟨_, ?_, 7 + 1, (H388.pick (t := 5) rfl (H388.pick (t := 1) rfl (H388.pick (t := 3) rfl (H388.pick (t := 4) rfl H388.nil)))), O381.sel [0, 1, 2, 3] (by decide), ?_, rfl⟩
  ·
   rw [hm100]; omega
  omega
 refine gw_seq fun K389 hK389 => ?_
 refine gR fun K390 hK390 => ?_
 refine Vm H98 fun _ H392 => ?_
 refine V H392 (op_leq rfl (H392.ev rfl) (ev_c _ _)) fun _ H394 => ?_
 clear H98 H392
 have H395 := H394.lit (b := false) (by decide)
 clear H394
 refine gE hK390 ?_
 refine gw_cond H395 rfl (fun hb396 => ?_) (fun hb396 => ?_)
 ·
  cases hb396
 refine wp_exit ?_
 refine gw_thx ?_
 refine gw_thx ?_
 refine gw_in ?_
 refine gw_nx (hK90 _ _ ?_)
 refine gw_seq fun K397 hK397 => ?_
 refine gw_drawB O99 (by kernel_rfl) (by kernel_rfl) fun w398 O399 => ?_
 clear O99
 refine Vq H395 (fun wq hq => have HO := O399.after hq; op_loadn gwagg24 gwsiz24 rfl (H395.ev rfl) (HO.get 2 rfl) rfl rfl) fun _ H401 => ?_
 clear H395
 refine gq_call H401 (want_none rfl) rfl (by decide) (fun wq hq => have HO := O399.after hq; (op_callL Tryd.func14 (by kernel_rfl) rfl rfl (ar_cons (H401.ev rfl) ar_nil))) (fun wq hq => have HO := O399.after hq; (right_calls A0 c0 su bo ps _ hz (Kd.C_below hr HO.below) hc).mono fun e w' h => ⟨h.1, below_then hq h.2⟩) ?_
 intro _ H403; clear H401
 refine Vq H403 (fun wq hq => have HO := O399.after hq; op_loadn gwagg29 gwsiz29 rfl (H403.ev rfl) (HO.get 1 rfl) rfl rfl) fun _ H405 => ?_
 clear H403
 refine gq_call H405 (want_none rfl) rfl (by decide) (fun wq hq => have HO := O399.after hq; (op_callL Tryd.func15 (by kernel_rfl) rfl rfl (ar_cons (H405.ev rfl) ar_nil))) (fun wq hq => have HO := O399.after hq; (rright_calls A44 c45 su bo ps _ hz (frz_C (i := 3) HO rfl hbz48 hFz49) hlz50).mono fun e w' h => ⟨h.1, below_then hq h.2⟩) ?_
 intro _ H407; clear H405
 refine Vn H407 (op_eqb Tryd.underlying4 rfl (H407.ev rfl) (H407.ev rfl)) fun _ H409 => ?_
 clear H407
 have H410 := H409.lit (b := true) (by simp)
 clear H409
 refine Vn H410 (op_move rfl (H410.ev rfl)) fun _ H412 => ?_
 refine gq_ev H412 (want_yes H412 rfl rfl rfl rfl) rfl (by decide) (fun wq hq => have HO := O399.after hq; (op_loadn gwagg24 gwsiz24 rfl (H412.ev rfl) (HO.get 2 rfl) rfl rfl)) fun _ H414 => ?_
 clear H410 H412
 refine gq_call H414 (want_yes H414 rfl rfl rfl rfl) rfl (by decide) (fun wq hq => have HO := O399.after hq; (op_callL Tryd.func16 (by kernel_rfl) rfl rfl (ar_cons (H414.ev rfl) ar_nil))) (fun wq hq => have HO := O399.after hq; (text_calls su bo A0 c0 ps _ (Kd.C_below hr HO.below) hc (by omega) (hL.own HO) hz).mono fun e w' h => ⟨h.1, below_then hq h.2⟩) ?_
 intro _ H416; clear H414
 refine gq_ev H416 (want_yes H416 rfl rfl rfl rfl) rfl (by decide) (fun wq hq => have HO := O399.after hq; (op_loadn gwagg29 gwsiz29 rfl (H416.ev rfl) (HO.get 1 rfl) rfl rfl)) fun _ H418 => ?_
 clear H416
 refine gq_call H418 (want_yes H418 rfl rfl rfl rfl) rfl (by decide) (fun wq hq => have HO := O399.after hq; (op_callL Tryd.func17 (by kernel_rfl) rfl rfl (ar_cons (H418.ev rfl) ar_nil))) (fun wq hq => have HO := O399.after hq; (rtext_calls A44 c45 su bo ps _ hz (by omega) (frz_C (i := 3) HO rfl hbz48 hFz49) hlz50).mono fun e w' h => ⟨h.1, below_then hq h.2⟩) ?_
 intro _ H420; clear H418
 refine gq_ev H420 (want_yes H420 rfl rfl rfl rfl) rfl (by decide) (fun wq hq => have HO := O399.after hq; (op_eqs rfl (H420.ev rfl) (H420.ev rfl))) fun _ H422 => ?_
 clear H420
 have H423 := H422.lit (b := true) (by simp)
 clear H422
 refine Vn H423 (op_pick_t rfl (H423.ev rfl) (H423.ev rfl)) fun _ H425 => ?_
 refine Vn H425 (op_assign rfl (H425.ev rfl)) fun _ H427 => ?_
 clear H423 H425
 refine wpQuiet_nil ?_
 intro w428 hq
 have O429 := O399.after hq
 clear O399 hq
 refine gw_nx (hK397 _ _ ?_)
 refine wp_ret ?_
 refine gw_ret1 H427 rfl rfl ?_
 exact ⟨rfl, O429.below⟩
end GTexts_
export GTexts_ (texts_walk)
open Classical in
noncomputable def colloquylaw20_SumTexts.f (a0_0 : ByteArray) (a0_1 : ByteArray) (l0_2 : List S46) : Option Bool := if (szP l0_2) then some true else none
theorem colloquylaw20_SumTexts.calls (a0_0 : ByteArray) (a0_1 : ByteArray) (A0_2 : Option Addr) (c0_2 : Nat) (l0_2 : List S46) (r : Bool) (w : World) (hr0_2 : Kd.C k46 w A0_2 l0_2.length l0_2) (hc0_2 : l0_2.length ≤ c0_2) (hL : LaidW w) (h : colloquylaw20_SumTexts.f a0_0 a0_1 l0_2 = some r) :
    Calls Tryd.prog 3 #[(.agg #[.string a0_0, .string a0_1, .slice A0_2 l0_2.length c0_2])] w fun e w' => e = .returned (.bool r) ∧ Below w.heap.size w w' := by
  unfold colloquylaw20_SumTexts.f at h
  split at h
  · cases h; rename_i hh; exact texts_walk a0_0 a0_1 A0_2 c0_2 l0_2 w hr0_2 hc0_2 hh hL
  · cases h
section
structure Opens {α : Type} (P : Program) (t : TypeId) (d : Kd α) (good : α → Prop) (wt : α → Nat) (sz : α → Prop) : Prop where
  run : ∀ {H : Type} (enc : TypeId × Value → H) (w : World) (spare : Nat → Bool) (held : Bool) (fuel : Nat) (cs : List Value) (x : DataW H × List MemPlace),
    DataW.trod enc P w 0 spare held fuel t cs = some x → ∃ y : α, d.K w y cs ∧ good y ∧ wt y ≤ Rows.uptoBulk x.1 ∧ ((∀ n ∈ x.1.weights P t, n ≤ reachBytes) → sz y)
structure OpensF {α : Type} (P : Program) (fs : List Field) (off : Nat) (d : Kd α) (good : α → Prop) (wt : α → Nat) (sz : α → Prop) : Prop where
  run : ∀ {H : Type} (enc : TypeId × Value → H) (w : World) (spare : Nat → Bool) (held : Bool) (fuel : Nat) (cs : List Value) (xs : List (DataW H × List MemPlace)),
    (fs.mapM fun f => DataW.trod enc P w 0 spare held fuel f.type ((cs.drop f.offset).take (P.cellsOf f.type))) = some xs →
      ∃ y : α, d.K w y ((cs.drop off).take d.sz) ∧ good y ∧ wt y ≤ Rows.uptoBulkAll (xs.map (·.1)) ∧ ((∀ n ∈ DataW.weightsEach P (fs.map (·.type)) (xs.map (·.1)), n ≤ reachBytes) → sz y)
section
variable {P : Program} {t e : TypeId}
theorem bulk_pos {H : Type} (d : DataW H) : 1 ≤ Rows.uptoBulk d := by
  cases d with
  | lit l => cases l <;> simp [Rows.uptoBulk]
  | nil => simp [Rows.uptoBulk]
  | ptr d => simp [Rows.uptoBulk]
  | slice elems spare => simp [Rows.uptoBulk]
  | agg parts => simp [Rows.uptoBulk]
  | iface t d => simp [Rows.uptoBulk]
  | map entries => simp [Rows.uptoBulk]
  | held h => simp [Rows.uptoBulk]
theorem opens_int {k : IntKind} (ht : P.underlying t = some (.int k)) : Opens P t (Kd.int k) (fun y => (Lit.int k y).wf = true) (fun _ => 1) (fun _ => True) :=
  ⟨fun enc w spare held fuel cs x h => by
    obtain ⟨n, rfl, rfl, hw⟩ := DataW.trod_int ht h
    exact ⟨n, rfl, hw, bulk_pos _, fun _ => trivial⟩⟩
theorem opens_string (ht : P.underlying t = some .string) : Opens P t Kd.string (fun s => s.size ≤ maxLen) (fun s => s.size + 1) (fun s => s.size ≤ reachBytes) :=
  ⟨fun enc w spare held fuel cs x h => by
    obtain ⟨s, rfl, rfl, hs⟩ := DataW.trod_string ht h
    have e : s.data.toList.length = s.size := by rw [Array.length_toList]; rfl
    refine ⟨s, rfl, hs, ?_, fun hn => ?_⟩
    · simp only [Rows.uptoBulk]
      omega
    · rw [← e]
      exact hn _ (by simp [DataW.weights])⟩
theorem bulkAll_map {H : Type} {α : Type} (wt : α → Nat) : ∀ (ds : List (DataW H)) (xs : List α), xs.length = ds.length → (∀ (i : Nat) (x : α) (d : DataW H), xs[i]? = some x → ds[i]? = some d → wt x ≤ Rows.uptoBulk d) → (xs.map wt).sum ≤ Rows.uptoBulkAll ds
  | [], [], _, _ => by simp
  | [], _ :: _, hl, _ => by simp at hl
  | _ :: _, [], hl, _ => by simp at hl
  | d :: ds, x :: xs, hl, h => by
    have h0 := h 0 x d rfl rfl
    have ih := bulkAll_map wt ds xs (by simpa using hl) (fun i x' d' h1 h2 => h (i + 1) x' d' (by simpa using h1) (by simpa using h2))
    simp only [List.map_cons, List.sum_cons, Rows.uptoBulkAll]
    omega
theorem cells_list {w : World} {base : Nat} {a : Addr} {n : Nat} {cs : List Value} (h : w.cells? base a n = some cs) : cs.length = n ∧ ∀ i u, cs[i]? = some u → w.cell? (a.add i) = some u := by
  unfold World.cells? at h
  split at h
  · have hl := mapM_some_length h
    rw [List.length_range] at hl
    refine ⟨hl, fun i u hu => ?_⟩
    have hi : i < n := by
      have := (List.getElem?_eq_some_iff.1 hu).1
      omega
    have := mapM_some_get h i i (by rw [List.getElem?_range hi])
    rw [this]
    exact hu
  · cases h
theorem mem_weightsAll {H : Type} {n : Nat} {d : DataW H} : ∀ {ds : List (DataW H)}, d ∈ ds → n ∈ d.weights P e → n ∈ DataW.weightsAll P e ds
  | [], h, _ => by cases h
  | c :: ds, h, hn => by
    simp only [DataW.weightsAll, List.mem_append]
    rcases List.mem_cons.1 h with rfl | h
    · exact .inl hn
    · exact .inr (mem_weightsAll h hn)
theorem opens_slice {α : Type} [Inhabited α] {d : Kd α} {good : α → Prop} {wt : α → Nat} {sz : α → Prop} {b : Nat} (hby : P.bytesOf e = b) (ht : P.underlying t = some (.slice e)) (hsz : P.cellsOf e = d.sz) (ho : Opens P e d good wt sz) :
    Opens P t (Kd.slice e d) (fun xs => xs.length ≤ maxLen ∧ ∀ x ∈ xs, good x) (fun xs => (xs.map wt).sum + 1) (fun xs => xs.length * b ≤ reachBytes ∧ ∀ x ∈ xs, sz x) :=
  ⟨fun enc w spare held fuel cs x h => by
    rcases Deep.open_slice ht h with ⟨rfl, rfl⟩ | ⟨a, len, cap, m, n, D, Pl, rfl, hb, hl, hm, hmm, rfl, hx⟩
    · refine ⟨[], ⟨none, 0, rfl, Nat.le_refl _, rfl, Nat.zero_le _, fun h => absurd h (by simp)⟩, ⟨by simp [maxLen], fun x hx => by cases hx⟩, by simpa using bulk_pos _, fun _ => ⟨by simp, fun x hx => by cases hx⟩⟩
    · have hlm : len ≤ m := by rw [hmm]; split <;> omega
      have hel : ∀ i : Nat, ∃ y : α, i < len → ∃ cs', w.cells? 0 (a.add (i * P.cellsOf e)) (P.cellsOf e) = some cs' ∧ d.K w y cs' ∧ good y ∧ wt y ≤ Rows.uptoBulk (D i) ∧ ((∀ n ∈ (D i).weights P e, n ≤ reachBytes) → sz y) := by
        intro i
        by_cases hi : i < len
        · obtain ⟨cs', h1, h2⟩ := hx i (by omega)
          obtain ⟨y, hk, hg, hw, hz⟩ := ho.run enc w spare held n cs' _ h2
          exact ⟨y, fun _ => ⟨cs', h1, hk, hg, hw, hz⟩⟩
        · exact ⟨default, fun h => absurd h hi⟩
      obtain ⟨f, hf⟩ := Classical.axiomOfChoice hel
      have hget : ∀ (j : Nat) (p : α), ((List.range len).map f)[j]? = some p → j < len ∧ f j = p := by
        intro j p hj
        have hj' := (List.getElem?_eq_some_iff.1 hj).1
        rw [List.length_map, List.length_range] at hj'
        rw [List.getElem?_map, List.getElem?_range hj'] at hj
        exact ⟨hj', by simpa using hj⟩
      have hlen : ((List.range len).map f).length = len := by rw [List.length_map, List.length_range]
      have hmax : maxLen = 9223372036854775807 := rfl
      refine ⟨(List.range len).map f, ⟨some a, cap, by rw [hlen], by rw [hlen]; exact hl, rfl, by rw [hlen]; omega, fun _ => ⟨a, rfl, fun j p hj => ?_⟩⟩, ⟨by rw [hlen]; omega, fun x hx' => ?_⟩, ?_, fun hn => ⟨?_, fun x hx' => ?_⟩⟩
      · obtain ⟨hj', rfl⟩ := hget j p hj
        obtain ⟨cs', h1, hk, _⟩ := hf j hj'
        obtain ⟨hcl, hcc⟩ := cells_list h1
        refine ⟨cs', by rw [hcl, hsz], hk, fun i u hu => ?_⟩
        have := hcc i u hu
        rwa [Addr.add_add, hsz] at this
      · obtain ⟨i, hi, rfl⟩ := List.mem_map.1 hx'
        obtain ⟨_, _, _, hg, _⟩ := hf i (List.mem_range.1 hi)
        exact hg
      · simp only [Rows.uptoBulk]
        have := bulkAll_map wt ((List.range len).map D) ((List.range len).map f) (by simp) (fun i x' d' h1 h2 => by
          obtain ⟨hi, rfl⟩ := hget i x' h1
          have hd : D i = d' := by
            rw [List.getElem?_map, List.getElem?_range hi] at h2
            simpa using h2
          subst hd
          obtain ⟨_, _, _, _, hw, _⟩ := hf i hi
          exact hw)
        omega
      · simp only [DataW.weights, ht] at hn
        have h1 := hn _ (List.mem_cons_self ..)
        rw [List.length_map, List.length_range, hby] at h1
        rw [hlen]
        exact Nat.le_trans (Nat.mul_le_mul_right b (Nat.le_add_right _ _)) h1
      · simp only [DataW.weights, ht] at hn
        obtain ⟨i, hi, rfl⟩ := List.mem_map.1 hx'
        obtain ⟨_, _, _, _, _, hz⟩ := hf i (List.mem_range.1 hi)
        exact hz fun n hn' => hn n (List.mem_cons_of_mem _ (List.mem_append_left _ (mem_weightsAll (List.mem_map.2 ⟨i, hi, rfl⟩) hn')))⟩
theorem opensF_one {α : Type} {d : Kd α} {good : α → Prop} {wt : α → Nat} {sz : α → Prop} {f : Field} (hsz : P.cellsOf f.type = d.sz) (ho : Opens P f.type d good wt sz) : OpensF P [f] f.offset d good wt sz :=
  ⟨fun enc w spare held fuel cs xs h => by
    simp only [List.mapM_cons, List.mapM_nil] at h
    obtain ⟨x, hx, h2⟩ := Option.bind_eq_some_iff.1 h
    obtain ⟨ys, hys, h3⟩ := Option.bind_eq_some_iff.1 h2
    obtain rfl : [] = ys := by simpa using hys
    obtain rfl : [x] = xs := by simpa using h3
    obtain ⟨y, hk, hg, hw, hz⟩ := ho.run enc w spare held fuel _ x hx
    refine ⟨y, by rw [← hsz]; exact hk, hg, ?_, fun hn => hz fun n h' => hn n ?_⟩
    · simp only [List.map_cons, List.map_nil, Rows.uptoBulkAll]
      omega
    · simp only [List.map_cons, List.map_nil, DataW.weightsEach, List.append_nil]
      exact h'⟩
theorem opensF_cons {α β : Type} {d : Kd α} {d2 : Kd β} {good : α → Prop} {good2 : β → Prop} {wt : α → Nat} {wt2 : β → Nat} {sz : α → Prop} {sz2 : β → Prop} {f : Field} {fs : List Field} {off2 : Nat} (hsz : P.cellsOf f.type = d.sz) (hoff : f.offset + d.sz = off2)
    (ho : Opens P f.type d good wt sz) (h2 : OpensF P fs off2 d2 good2 wt2 sz2) : OpensF P (f :: fs) f.offset (Kd.pair d d2) (fun x => good x.1 ∧ good2 x.2) (fun x => wt x.1 + wt2 x.2) (fun x => sz x.1 ∧ sz2 x.2) :=
  ⟨fun enc w spare held fuel cs xs h => by
    simp only [List.mapM_cons] at h
    obtain ⟨x, hx, h3⟩ := Option.bind_eq_some_iff.1 h
    obtain ⟨ys, hys, h4⟩ := Option.bind_eq_some_iff.1 h3
    obtain rfl : x :: ys = xs := by simpa using h4
    obtain ⟨y, hk, hg, hw, hz⟩ := ho.run enc w spare held fuel _ x hx
    obtain ⟨z, hk2, hg2, hw2, hz2⟩ := h2.run enc w spare held fuel cs ys hys
    refine ⟨(y, z), ⟨(cs.drop f.offset).take d.sz, (cs.drop off2).take d2.sz, ?_, by rw [← hsz]; exact hk, hk2⟩, ⟨hg, hg2⟩, ?_, fun hn => ?_⟩
    · show (cs.drop f.offset).take (d.sz + d2.sz) = _
      rw [List.take_add, List.drop_drop, hoff]
    · simp only [List.map_cons, Rows.uptoBulkAll]
      omega
    · simp only [List.map_cons, DataW.weightsEach] at hn
      exact ⟨hz fun n h' => hn n (List.mem_append_left _ h'), hz2 fun n h' => hn n (List.mem_append_right _ h')⟩⟩
theorem opens_struct {α β : Type} {d : Kd α} {good : α → Prop} {wt : α → Nat} {sz : α → Prop} {fs : Array Field} (f : β → α) (g : α → β) (hfg : ∀ a, f (g a) = a) (ht : P.underlying t = some (.struct fs)) (hsz : P.cellsOf t = d.sz) (ho : OpensF P fs.toList 0 d good wt sz) :
    Opens P t (Kd.iso d f) (fun x => good (f x)) (fun x => wt (f x) + 1) (fun x => sz (f x)) :=
  ⟨fun enc w spare held fuel cs x h => by
    cases fuel with
    | zero => simp [DataW.trod] at h
    | succ n =>
      unfold DataW.trod at h
      rw [ht] at h
      have h' : (if cs.length = P.cellsOf t then (fs.toList.mapM fun f => DataW.trod enc P w 0 spare held n f.type ((cs.drop f.offset).take (P.cellsOf f.type))).map fun xs => (DataW.agg (xs.map (·.1)), xs.flatMap (·.2)) else none) = some x := by
        cases cs with
        | nil => exact h
        | cons c cs => cases cs <;> cases c <;> exact h
      clear h
      split at h'
      · rename_i hl
        obtain ⟨xs, hxs, rfl⟩ := Option.map_eq_some_iff.1 h'
        obtain ⟨y, hk, hg, hw, hz⟩ := ho.run enc w spare held n cs xs hxs
        refine ⟨g y, ?_, by show good (f (g y)); rw [hfg]; exact hg, ?_, fun hn => ?_⟩
        · show d.K w (f (g y)) cs
          rw [hfg]
          rw [List.drop_zero, List.take_of_length_le (by omega)] at hk
          exact hk
        · show wt (f (g y)) + 1 ≤ Rows.uptoBulk (DataW.agg (xs.map (·.1)))
          rw [hfg]
          simp only [Rows.uptoBulk]
          omega
        · show sz (f (g y))
          rw [hfg]
          simp only [DataW.weights, ht] at hn
          exact hz hn
      · cases h'⟩
end
end
structure S24 where
  f0 : ByteArray
  f1 : ByteArray
  f2 : (List S46)
def z24 : S24 := ⟨(⟨#[]⟩ : ByteArray), (⟨#[]⟩ : ByteArray), ([] : List S46)⟩
def k24 : Kd S24 := Kd.iso (Kd.pair Kd.string (Kd.pair Kd.string (Kd.slice 46 k46))) (fun x : S24 => (x.f0, x.f1, x.f2))
theorem k24_open {w : World} {x : S24} {cs : List Value} (h : k24.K w x cs) : ∃ A2 c2, cs = [.string x.f0, .string x.f1, .slice A2 x.f2.length c2] ∧ x.f2.length ≤ c2 ∧ k46.C w A2 x.f2.length x.f2 := by
  obtain ⟨_, _, rfl, rfl, ⟨_, _, rfl, rfl, ⟨A2, c2, rfl, l2, g2⟩⟩⟩ := h
  exact ⟨A2, c2, rfl, l2, g2⟩
instance : Inhabited S49 := ⟨z49⟩
def good49 (x : S49) : Prop := (x.f0).size ≤ maxLen ∧ (Lit.int .i64 (x.f1)).wf = true
def wt49 (x : S49) : Nat := (((x.f0).size + 1) + (1)) + 1
def sz49 (x : S49) : Prop := ((x.f0).size ≤ reachBytes) ∧ True
theorem opens49 : Opens Tryd.prog 49 k49 good49 wt49 sz49 :=
  opens_struct (fun x : S49 => (x.f0, x.f1)) (fun p => ⟨p.1, p.2⟩) (fun _ => rfl) Tryd.underlying49 (by kernel_rfl) (opensF_cons (by kernel_rfl) rfl (opens_string Tryd.underlying9) (opensF_one (by kernel_rfl) (opens_int Tryd.underlying3)))
instance : Inhabited S46 := ⟨z46⟩
def good46 (x : S46) : Prop := (x.f0).size ≤ maxLen ∧ ((x.f1).length ≤ maxLen ∧ ∀ y ∈ x.f1, good49 (y))
def wt46 (x : S46) : Nat := (((x.f0).size + 1) + ((((x.f1).map (fun x => wt49 (x))).sum + 1))) + 1
def sz46 (x : S46) : Prop := ((x.f0).size ≤ reachBytes) ∧ ((x.f1).length * 24 ≤ reachBytes ∧ ∀ y ∈ x.f1, sz49 (y))
theorem opens46 : Opens Tryd.prog 46 k46 good46 wt46 sz46 :=
  opens_struct (fun x : S46 => (x.f0, x.f1)) (fun p => ⟨p.1, p.2⟩) (fun _ => rfl) Tryd.underlying46 (by kernel_rfl) (opensF_cons (by kernel_rfl) rfl (opens_string Tryd.underlying9) (opensF_one (by kernel_rfl) (opens_slice (b := 24) (by kernel_rfl) Tryd.underlying44 (by kernel_rfl) opens49)))
instance : Inhabited S24 := ⟨z24⟩
def good24 (x : S24) : Prop := (x.f0).size ≤ maxLen ∧ (x.f1).size ≤ maxLen ∧ ((x.f2).length ≤ maxLen ∧ ∀ y ∈ x.f2, good46 (y))
def wt24 (x : S24) : Nat := (((x.f0).size + 1) + (((x.f1).size + 1) + ((((x.f2).map (fun x => wt46 (x))).sum + 1)))) + 1
def sz24 (x : S24) : Prop := ((x.f0).size ≤ reachBytes) ∧ ((x.f1).size ≤ reachBytes) ∧ ((x.f2).length * 40 ≤ reachBytes ∧ ∀ y ∈ x.f2, sz46 (y))
theorem opens24 : Opens Tryd.prog 24 k24 good24 wt24 sz24 :=
  opens_struct (fun x : S24 => (x.f0, x.f1, x.f2)) (fun p => ⟨p.1, p.2.1, p.2.2⟩) (fun _ => rfl) Tryd.underlying24 (by kernel_rfl) (opensF_cons (by kernel_rfl) rfl (opens_string Tryd.underlying9) (opensF_cons (by kernel_rfl) rfl (opens_string Tryd.underlying9) (opensF_one (by kernel_rfl) (opens_slice (b := 40) (by kernel_rfl) Tryd.underlying22 (by kernel_rfl) opens46))))
def colloquylaw20_SumTexts.PureU : Prop := ∀ (x0 : S24), good24 (x0) → sz24 (x0) → ∃ _ : Nat, colloquylaw20_SumTexts.f (x0.f0) (x0.f1) (x0.f2) = some true
end Go.Proofs.YtljmbgilcngfgaaDoor.PA
section
namespace Go.Proofs.YtljmbgilcngfgaaDoor.Pure
open Go.RowKit Go.Proofs.YtljmbgilcngfgaaDoor.PA
set_option linter.unusedVariables false in
theorem SumTexts : colloquylaw20_SumTexts.PureU := fun x0 _ hs => ⟨0, if_pos ⟨by have h_ := hs.2.2.1; unfold reachBytes at h_; omega, fun p hp => by have h_ := (hs.2.2.2 p hp).2.1; unfold reachBytes at h_; omega⟩⟩
end Go.Proofs.YtljmbgilcngfgaaDoor.Pure
end
section
namespace Go.Proofs.YtljmbgilcngfgaaDoor.sumTexts
open Go.ChangeShapes Go.WideShapes Go.ChangeAt Go.RowKit
open Go.ChangeMaps (open_string shut_string)
open Go.RowKit Go.Proofs.YtljmbgilcngfgaaDoorW.PrintWords Go.Proofs.YtljmbgilcngfgaaDoorW.PrintLast Go.Proofs.YtljmbgilcngfgaaDoorW.PrintMore Go.Proofs.YtljmbgilcngfgaaDoor.PA
set_option linter.unusedVariables false
set_option linter.unusedSimpArgs false
theorem own : ownKnob Tryd.prog.godebug = none := by kernel_rfl
theorem laidOut : laidOutB Tryd.prog = true := by kernel_rfl
set_option maxRecDepth 100000 in
theorem contract (H : Type) (enc : TypeId × Value → H) (W : World) (base : Nat) (args : Array Value) (ds gs : List (DataW H)) (before : List MemPlace)
    (hval0 : ∀ (j : Nat) t v, Tryd.f3.params[j]? = some t → args[j]? = some v → Value.okWide Tryd.prog W .any base t v)
    (hW : DataW.Whole enc Tryd.prog Tryd.f3.params.toList Rows.sumTextsSpec.vars false W args.toList ds gs before)
    (hsz0 : (DataW.weightsEach Tryd.prog (Tryd.f3.params.toList ++ Rows.sumTextsSpec.plain.varTypes Tryd.prog) (ds ++ gs)).all (· ≤ reachBytes) = true) (hLd : PA.LaidW W) :
    Calls Tryd.prog 3 args W fun e W' => ∃ v, e = .returned v ∧ Rows.sumTextsSpec.post enc Tryd.prog Tryd.f3 false true false false W args v W' := by
  have hsz : (DataW.weightsEach Tryd.prog (Tryd.f3.params.toList ++ Rows.sumTextsSpec.plain.varTypes Tryd.prog) (ds ++ gs)).all (· ≤ reachBytes) = true := hsz0
  have hval : ∀ (j : Nat) t v, Tryd.f3.params[j]? = some t → args[j]? = some v → Value.okWide Tryd.prog W .any base t v := hval0
  have hW' := hW
  obtain ⟨p, q, hA0, hV, rfl, hfz, hnd⟩ := hW
  have hA : DataW.TrodAll enc Tryd.prog W 0 (fun _ => true) true Tryd.f3.params.toList args.toList ds p := hA0
  rw [Tryd.params3] at hA hval hsz
  obtain ⟨v0, vs0, d0, ds0, p0, q0, hargs, rfl, rfl, h0, r0⟩ := trodAll_cons hA
  obtain ⟨rfl, rfl, rfl⟩ := trodAll_nil r0
  obtain rfl : args = #[v0] := by cases args; simp_all
  obtain ⟨rfl, rfl⟩ := trodVars_none hV
  have k0 := h0
  have lt0 : ∀ x ∈ p0, x.block < W.heap.size := by obtain ⟨m, hm⟩ := k0; exact DataW.trod_lt m _ _ _ hm
  obtain ⟨fuel0, hf0⟩ := h0
  obtain ⟨x0, hK0, g0, z0, s00⟩ := opens24.run enc W _ _ fuel0 _ _ hf0
  have s0 := s00 (fun n hn => by have := List.all_eq_true.1 hsz n (DataW.weights_mem_each (j := 0) (t := 24) rfl rfl n hn); simpa using this)
  obtain ⟨cs0, rfl, _⟩ := okWide_struct Tryd.underlying24 (hval 0 24 v0 rfl rfl)
  obtain ⟨A0_2, c0_2, hcs0, hc0_2, hr0_2⟩ := k24_open hK0
  obtain rfl : cs0 = #[.string x0.f0, .string x0.f1, .slice A0_2 x0.f2.length c0_2] := by
    have hcs' : cs0.toList = [.string x0.f0, .string x0.f1, .slice A0_2 x0.f2.length c0_2] := hcs0
    cases cs0; simp_all
  obtain ⟨k, h⟩ := Pure.SumTexts x0 g0 s0
  refine (PA.colloquylaw20_SumTexts.calls (a0_0 := x0.f0) (a0_1 := x0.f1) (A0_2 := A0_2) (c0_2 := c0_2) (l0_2 := x0.f2) (r := true) (w := W) (hr0_2 := hr0_2) (hc0_2 := hc0_2) (hL := hLd) (h := h)).mono fun e W' ⟨he, hb⟩ => ?_
  have bel : Below W.heap.size W W' := by first | exact hb | exact Drawn0.below hb
  subst he
  exact ⟨_, rfl, _, _, _, [], _, [], hW', trodAll_mk1 (shut_bool Tryd.underlying4 _), (trodAll_cons_mk (Below.trod laidOut (by kernel_rfl) (of_decide_eq_true (by kernel_rfl)) k0 bel lt0) trodAll_mk0), rfl, bel.frame _, fun h => by cases h⟩
set_option maxRecDepth 100000 in
theorem lifted (os : Os) (started : os.Started) (H : Type) (enc : TypeId × Value → H) :
    ReturnsInHanded {} Tryd.checked os 3 .any (fun w args => (Rows.sumTextsSpec.pre enc Tryd.prog Tryd.f3 Rows.sumTextsRow.domain false w args ∧ laidMetH Tryd.prog Rows.sumTextsRow.laid w) ∧ sizedMet enc Tryd.prog Tryd.f3 (OpenSpec.ofChange Rows.sumTextsSpec) false w args)
      (Rows.sumTextsSpec.post enc Tryd.prog Tryd.f3 false true false false) := by
  refine PA.handed_and_shaped (C := Tryd.checked) (X := fun w _ => laidMetH Tryd.prog Rows.sumTextsRow.laid w) (fun _ _ _ hh h => h.of_heap hh) own started (by kernel_rfl) Tryd.func3
    (ChangeSpec.witness_shaped (enc := enc) (C := Tryd.checked) (os := os) (X := fun w _ => laidMetH Tryd.prog Rows.sumTextsRow.laid w) false (World.laidAll Tryd.prog os Rows.sumTextsRow.laid) #[.agg #[.string ByteArray.empty, .string ByteArray.empty, .slice none 0 0]] 8 (World.laidAll_os _ _ _)
      (World.shaped_of_ZipB (by kernel_rfl) (by kernel_rfl)) (by kernel_rfl) (by kernel_rfl) (by kernel_rfl)
      (by rw [MakeChecks.laidMetH_plain _ _ _ (by kernel_rfl)]; exact laidMet_laidAll _ (by kernel_rfl) (by kernel_rfl))) ?_
  intro W base args ds gs before hval hW hsz hx hsh
  exact contract H enc W base args ds gs before hval hW hsz (PA.laid_W hsh (fun w => MakeChecks.laidMetH_plain _ _ w (by kernel_rfl)) (by have e_ : (Lib.tabData .u64 Lib.pow10Tab : DataW Unit) = Rows.laid_internal_strconv_uint64pow10 := (by kernel_rfl); rw [e_]; simp [Rows.sumTextsRow]) hx)
theorem over : Rows.sumTextsRow.holds Tryd.pinned (OpenSpec.ofChange Rows.sumTextsSpec) :=
  OpenClaim.holds_of_wide 3 Tryd.f3 rfl rfl rfl rfl rfl rfl rfl ⟨rfl, rfl, rfl, rfl, rfl⟩ rfl rfl rfl rfl rfl (by kernel_rfl) Tryd.func3 (by kernel_rfl)
    (of_decide_eq_true (by kernel_rfl)) (by unfold Func.isWrapper; first | (rw [if_pos (by decide +kernel)]; kernel_rfl) | (rw [if_neg (by decide +kernel)]; exact ⟨rfl, rfl⟩))
    (fun os started H enc _ => lifted os started H enc)
theorem proved : Rows.SumTextsSaid := over
theorem card_holds : Rows.SumTextsCardSaid :=
  Claim7.holds_tied_plain_at .later [] [.data, .data, .data, .data, .pinned] true (true, "9ec31119e96e43430481a0a0f6c2bb068c6456d675388dc92fd42b455ffcde30") false
    proved (fun _ h => by cases h) (by kernel_rfl) (fun _ h => by cases h) sumTexts_row_tie rfl ⟨rfl, rfl⟩ (by kernel_rfl) rfl
    (fun f fn hf hfn => by
      obtain rfl : f = 3 := Option.some.inj ((show Tryd.prog.funcNamed "colloquy/colloquylaw20.SumTexts" = some 3 by kernel_rfl).symm.trans hf) |>.symm
      obtain rfl : fn = Tryd.f3 := (Option.some.inj (Tryd.func3.symm.trans hfn)).symm
      exact ⟨by kernel_rfl, fun j t ht => by
        have hall : (Tryd.f3.params.toList.all fun u => !Tryd.prog.wantsStandIn u) = true := by kernel_rfl
        have hm : t ∈ Tryd.f3.params.toList := Array.mem_toList_iff.2 (Array.mem_of_getElem? ht)
        exact (show Tryd.prog.wantsStandIn t = false by simpa using List.all_eq_true.1 hall t hm)⟩)
    (by kernel_rfl)
end Go.Proofs.YtljmbgilcngfgaaDoor.sumTexts
namespace Go.Proofs.YtljmbgilcngfgaaDoor
theorem sumTextsCard_holds : Rows.SumTextsCardSaid := sumTexts.card_holds
end Go.Proofs.YtljmbgilcngfgaaDoor
end
