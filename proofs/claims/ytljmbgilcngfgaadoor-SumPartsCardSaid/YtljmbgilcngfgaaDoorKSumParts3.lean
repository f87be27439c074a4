/- What this claim uses of this session's own texts, put together by a program: PAx2 PAx69 PAx1 PAx68 HSumG HSumH HSumJ HLat GText GAlive. -/
import Derived.Test.YtljmbgilcngfgaaDoorKSumParts2
import Derived.Test.YtljmbgilcngfgaaDoorProg
import Derived.Test.YtljmbgilcngfgaaDoorRows
import Derived.Test.YtljmbgilcngfgaaDoorCards
import Derived.Test.YtljmbgilcngfgaaDoorTie
namespace Go.Proofs.YtljmbgilcngfgaaDoor.PA
open Go.RowKit Go.Proofs.YtljmbgilcngfgaaDoorW.PrintWords Go.Proofs.YtljmbgilcngfgaaDoorW.PrintLast Go.Proofs.YtljmbgilcngfgaaDoorW.PrintMore
set_option linter.unusedVariables false
set_option linter.unusedSimpArgs false
set_option maxRecDepth 100000
set_option maxHeartbeats 8000000
section
attribute [local go_sem] max2_int min2_int max_two min_two max_three min_three max_four min_four   -- for this text's walks alone
def colloquylaw20_of.l0 : Nat → List (S46) → Int → Int → ByteArray → ByteArray → List (S53) → Option (ByteArray × ByteArray × (List (S53)))
  | 0, _, _, _, _, _, _ => none
  | k + 1, x12, x13, x14, x104000, x104001, x104002 => if x14 < x13 then (if 0 ≤ x14 then (if x14 < (x12.length : Int) then (if x104002.length < 3518437208883 then (colloquylaw20_of.l0 k x12 x13 (wrap64 (x14 + 1)) x104000 x104001 (x104002 ++ [(⟨(rd_T46 x12 x14).f0, (rd_T46 x12 x14).f1⟩ : S53)])) else (none)) else (none)) else (none)) else (some (x104000, x104001, x104002))
def colloquylaw20_of.f (k : Nat) (a0_0 : ByteArray) (a0_1 : ByteArray) (l0_2 : List (S46)) : Option (ByteArray × ByteArray × (List (S53))) := colloquylaw20_of.l0 k l0_2 (l0_2.length : Int) 0 a0_0 a0_1 ([] : List (S53))
theorem colloquylaw20_of.mono_l : ∀ k, (∀ y0 y1 y2 y3 y4 y5, LeO (colloquylaw20_of.l0 k y0 y1 y2 y3 y4 y5) (colloquylaw20_of.l0 (k + 1) y0 y1 y2 y3 y4 y5))
  | 0 => fun _ _ _ _ _ _ r h => by simp [colloquylaw20_of.l0] at h
  | k + 1 => by
    have ih0 := colloquylaw20_of.mono_l k
    · intro y0 y1 y2 y3 y4 y5
      unfold colloquylaw20_of.l0
      repeat' first
      | (with_reducible exact ih0 _ _ _ _ _ _)
      | (with_reducible exact LeO.refl _)
      | (with_reducible exact LeO.none _)
      | (with_reducible refine LeO.ite ?_ ?_)
      | (with_reducible refine LeO.bind ?_ (fun _ => ?_))
      | exact ih0 _ _ _ _ _ _
      | exact LeO.none _
      | refine LeO.ite ?_ ?_
      | refine LeO.bind ?_ (fun _ => ?_)
theorem colloquylaw20_of.mono : ∀ a0 a1 a2 k, LeO (colloquylaw20_of.f k a0 a1 a2) (colloquylaw20_of.f (k + 1) a0 a1 a2) := by
  intro a0 a1 a2 k
  have ih0 := colloquylaw20_of.mono_l k
  unfold colloquylaw20_of.f
  repeat' first
      | (with_reducible exact ih0 _ _ _ _ _ _)
      | (with_reducible exact LeO.refl _)
      | (with_reducible exact LeO.none _)
      | (with_reducible refine LeO.ite ?_ ?_)
      | (with_reducible refine LeO.bind ?_ (fun _ => ?_))
      | exact ih0 _ _ _ _ _ _
      | exact LeO.none _
      | refine LeO.ite ?_ ?_
      | refine LeO.bind ?_ (fun _ => ?_)
theorem colloquylaw20_of.calls (k : Nat) (a0_0 : ByteArray) (a0_1 : ByteArray) (P0_2_ : Nat → Prop) (A0_2 : Option Addr) (c0_2 : Nat) (l0_2 : List (S46)) (r1 : ByteArray) (r2 : ByteArray) (r3 : List (S53)) (w : World) (hs0_2 : Kd.V k46 46 w w.heap.size (fun k_ => P0_2_ k_) (.slice A0_2 l0_2.length c0_2) l0_2) (h : colloquylaw20_of.f k a0_0 a0_1 l0_2 = some (r1, r2, r3)) :
    Calls Tryd.prog 11 #[.agg #[.string a0_0, .string a0_1, .slice A0_2 l0_2.length c0_2]] w fun e w' => ∃ v2_ : Value, e = .returned (.agg #[.string r1, .string r2, v2_]) ∧ Kd.N k53 53 w' w.heap.size (fun k_ => (P0_2_ k_ ∨ w.heap.size ≤ k_)) v2_ r3 ∧ Below w.heap.size w w' := by
  have hu24 := Tryd.underlying24
  have hu29 := Tryd.underlying29
  have hu46 := Tryd.underlying46
  have hu53 := Tryd.underlying53
  have HO0_2 := Aside0.mk (show Kd.V k46 46 w w.heap.size (fun k_ => (P0_2_ k_ ∨ w.heap.size ≤ k_)) (.slice A0_2 l0_2.length c0_2) l0_2 from Kd.V_mono hs0_2 (fun k_ hk => .inl hk))
  have HB := Aside0.mk (Below.refl w.heap.size w)
  have H : (colloquylaw20_of.l0 k l0_2 (l0_2.length : Int) 0 a0_0 a0_1 ([] : List (S53))) = some (r1, r2, r3) := h
  clear h
  have H' := Aside0.mk H
  clear H
  go_enter Tryd.func11, Tryd.ntmps11
  go_wp2_with (first | ((with_reducible refine gate_dst (N := 1) rfl ?_); refine box_event ?hg (N := 1) ?hd (cs := #[.string a0_0, .string a0_1, .slice A0_2 l0_2.length c0_2]) (t := 24) ?hr ?_; (case hd => rfl); (case hg => rfl); (case hr => first | (go_simp; done) | (go_simp; rfl)); intro gb101 hg w2 hbox hb; have n0_ := Aside0.mk (Kd.V_below (Kd.V_elderB (by (with_reducible repeat (first | apply Kd.V_alloc | apply Kd.V_drewN | apply Kd.V_drew)); exact HO0_2.out) gb101 (Nat.le_of_eq hg.symm)) hb); have n1_ := Aside0.mk (below_step (by repeat (first | (with_reducible first | exact HB.out | apply below_alloc | apply pw_below_drewN | apply below_drew1) | exact HB.out)) hb); have n2_ := Aside0.mk (hbox); have n3_ := Aside0.mk ((by rw [hg]; exact (below_size (by repeat (first | (with_reducible first | exact HB.out | apply below_alloc | apply pw_below_drewN | apply below_drew1) | exact HB.out))) : w.heap.size ≤ gb101)); have n4_ := Aside0.mk ((by rw [hg]; exact (below_size (by repeat (first | (with_reducible first | exact HB.out | apply below_alloc | apply pw_below_drewN | apply below_drew1) | exact HB.out))) : w.heap.size ≤ gb101)); clear HO0_2; clear HB; have HO0_2 := n0_; have HB := n1_; have BK101 := n2_; have GW101 := n3_; have GE101 := n4_; clear n0_ n1_ n2_ n3_ n4_; clear hb hbox hg) | ((with_reducible refine gate_dst (N := 2) rfl ?_); refine box_event ?hg (N := 2) ?hd (cs := #[.string (⟨#[]⟩ : ByteArray), .string (⟨#[]⟩ : ByteArray), .slice none 0 0]) (t := 29) ?hr ?_; (case hd => rfl); (case hg => rfl); (case hr => first | (go_simp; done) | (go_simp; rfl)); intro gb102 hg w3 hbox hb; have n0_ := Aside0.mk (Kd.V_below (Kd.V_elderB (by (with_reducible repeat (first | apply Kd.V_alloc | apply Kd.V_drewN | apply Kd.V_drew)); exact HO0_2.out) gb102 (Nat.le_of_eq hg.symm)) hb); have n1_ := Aside0.mk (blk_below (g := gb101) (o := .cells #[.string a0_0, .string a0_1, .slice A0_2 l0_2.length c0_2] 24 (0, 0)) (by (with_reducible repeat (first | refine blk_drewN ?_ _ | refine blk_drew ?_ | refine blk_alloc ?_ _)); exact BK101.out) hb); have n2_ := Aside0.mk (below_step (by repeat (first | (with_reducible first | exact HB.out | apply below_alloc | apply pw_below_drewN | apply below_drew1 | refine below_set ?_ GE101.out) | exact HB.out)) hb); have n3_ := Aside0.mk (hbox); have n4_ := Aside0.mk ((by rw [hg]; exact (below_size (by repeat (first | (with_reducible first | exact HB.out | apply below_alloc | apply pw_below_drewN | apply below_drew1 | refine below_set ?_ GE101.out) | exact HB.out))) : w.heap.size ≤ gb102)); have n5_ := Aside0.mk ((by rw [hg]; exact (below_size (by repeat (first | (with_reducible first | exact HB.out | apply below_alloc | apply pw_below_drewN | apply below_drew1 | refine below_set ?_ GE101.out) | exact HB.out))) : w.heap.size ≤ gb102)); have n6_ := Aside0.mk ((by rw [hg]; exact Nat.ne_of_lt (blk_lt (g := gb101) (o := .cells #[.string a0_0, .string a0_1, .slice A0_2 l0_2.length c0_2] 24 (0, 0)) (by (with_reducible repeat (first | refine blk_drewN ?_ _ | refine blk_drew ?_ | refine blk_alloc ?_ _)); exact BK101.out)) : gb101 ≠ gb102)); have n7_ := Aside0.mk ((by rw [hg]; exact Nat.ne_of_gt (blk_lt (g := gb101) (o := .cells #[.string a0_0, .string a0_1, .slice A0_2 l0_2.length c0_2] 24 (0, 0)) (by (with_reducible repeat (first | refine blk_drewN ?_ _ | refine blk_drew ?_ | refine blk_alloc ?_ _)); exact BK101.out)) : gb102 ≠ gb101)); clear HO0_2; clear BK101; clear HB; have HO0_2 := n0_; have BK101 := n1_; have HB := n2_; have BK102 := n3_; have GW102 := n4_; have GE102 := n5_; have NB101_102 := n6_; have NB102_101 := n7_; clear n0_ n1_ n2_ n3_ n4_ n5_ n6_ n7_; clear hb hbox hg; have hnb4 := NB101_102.out; have hnc4 := NB102_101.out; have hcz5_0 : w3.cell? ⟨gb101, 0, none⟩ = some (.string a0_0) := (blk_cell BK101.out 0).trans rfl; have hcz5_1 : w3.cell? ⟨gb101, 1, none⟩ = some (.string a0_1) := (blk_cell BK101.out 1).trans rfl; have hcz5_2 : w3.cell? ⟨gb101, 2, none⟩ = some (.slice A0_2 l0_2.length c0_2) := (blk_cell BK101.out 2).trans rfl; have hfz5_0 := blk_frozen BK101.out 0; have hfz5_1 := blk_frozen BK101.out 1; have hfz5_2 := blk_frozen BK101.out 2) | ((with_reducible refine gate_dst (N := 3) rfl ?_); refine box_event ?hg (N := 3) ?hd (cs := #[.string (⟨#[]⟩ : ByteArray), .string (⟨#[]⟩ : ByteArray), .slice none 0 0]) (t := 29) ?hr ?_; (case hd => rfl); (case hg => rfl); (case hr => first | (go_simp; done) | (go_simp; rfl)); intro gb103 hg w6 hbox hb; have n0_ := Aside0.mk (Kd.V_below (Kd.V_elderB (by (with_reducible repeat (first | apply Kd.V_alloc | apply Kd.V_drewN | apply Kd.V_drew)); exact HO0_2.out) gb103 (Nat.le_of_eq hg.symm)) hb); have n1_ := Aside0.mk (blk_below (g := gb101) (o := .cells #[.string a0_0, .string a0_1, .slice A0_2 l0_2.length c0_2] 24 (0, 0)) (by (with_reducible repeat (first | refine blk_drewN ?_ _ | refine blk_drew ?_ | refine blk_alloc ?_ _)); exact BK101.out) hb); have n2_ := Aside0.mk (blk_below (g := gb102) (o := .cells #[.string (⟨#[]⟩ : ByteArray), .string (⟨#[]⟩ : ByteArray), .slice none 0 0] 29 (0, 0)) (by (with_reducible repeat (first | refine blk_drewN ?_ _ | refine blk_drew ?_ | refine blk_alloc ?_ _)); exact BK102.out) hb); have n3_ := Aside0.mk (below_step (by repeat (first | (with_reducible first | exact HB.out | apply below_alloc | apply pw_below_drewN | apply below_drew1 | refine below_set ?_ GE101.out | refine below_set ?_ GE102.out) | exact HB.out)) hb); have n4_ := Aside0.mk (hbox); have n5_ := Aside0.mk ((by rw [hg]; exact (below_size (by repeat (first | (with_reducible first | exact HB.out | apply below_alloc | apply pw_below_drewN | apply below_drew1 | refine below_set ?_ GE101.out | refine below_set ?_ GE102.out) | exact HB.out))) : w.heap.size ≤ gb103)); have n6_ := Aside0.mk ((by rw [hg]; exact (below_size (by repeat (first | (with_reducible first | exact HB.out | apply below_alloc | apply pw_below_drewN | apply below_drew1 | refine below_set ?_ GE101.out | refine below_set ?_ GE102.out) | exact HB.out))) : w.heap.size ≤ gb103)); have n7_ := Aside0.mk ((by rw [hg]; exact Nat.ne_of_lt (blk_lt (g := gb101) (o := .cells #[.string a0_0, .string a0_1, .slice A0_2 l0_2.length c0_2] 24 (0, 0)) (by (with_reducible repeat (first | refine blk_drewN ?_ _ | refine blk_drew ?_ | refine blk_alloc ?_ _)); exact BK101.out)) : gb101 ≠ gb103)); have n8_ := Aside0.mk ((by rw [hg]; exact Nat.ne_of_gt (blk_lt (g := gb101) (o := .cells #[.string a0_0, .string a0_1, .slice A0_2 l0_2.length c0_2] 24 (0, 0)) (by (with_reducible repeat (first | refine blk_drewN ?_ _ | refine blk_drew ?_ | refine blk_alloc ?_ _)); exact BK101.out)) : gb103 ≠ gb101)); have n9_ := Aside0.mk ((by rw [hg]; exact Nat.ne_of_lt (blk_lt (g := gb102) (o := .cells #[.string (⟨#[]⟩ : ByteArray), .string (⟨#[]⟩ : ByteArray), .slice none 0 0] 29 (0, 0)) (by (with_reducible repeat (first | refine blk_drewN ?_ _ | refine blk_drew ?_ | refine blk_alloc ?_ _)); exact BK102.out)) : gb102 ≠ gb103)); have n10_ := Aside0.mk ((by rw [hg]; exact Nat.ne_of_gt (blk_lt (g := gb102) (o := .cells #[.string (⟨#[]⟩ : ByteArray), .string (⟨#[]⟩ : ByteArray), .slice none 0 0] 29 (0, 0)) (by (with_reducible repeat (first | refine blk_drewN ?_ _ | refine blk_drew ?_ | refine blk_alloc ?_ _)); exact BK102.out)) : gb103 ≠ gb102)); clear HO0_2; clear BK101; clear BK102; clear HB; have HO0_2 := n0_; have BK101 := n1_; have BK102 := n2_; have HB := n3_; have BK103 := n4_; have GW103 := n5_; have GE103 := n6_; have NB101_103 := n7_; have NB103_101 := n8_; have NB102_103 := n9_; have NB103_102 := n10_; clear n0_ n1_ n2_ n3_ n4_ n5_ n6_ n7_ n8_ n9_ n10_; clear hb hbox hg; have hnb7 := NB103_101.out; have hnc7 := NB101_103.out; have hnb8 := NB103_102.out; have hnc8 := NB102_103.out; have hcz9_0 : w6.cell? ⟨gb103, 0, none⟩ = some (.string (⟨#[]⟩ : ByteArray)) := (blk_cell BK103.out 0).trans rfl; have hcz9_1 : w6.cell? ⟨gb103, 1, none⟩ = some (.string (⟨#[]⟩ : ByteArray)) := (blk_cell BK103.out 1).trans rfl; have hcz9_2 : w6.cell? ⟨gb103, 2, none⟩ = some (.slice none 0 0) := (blk_cell BK103.out 2).trans rfl; have hfz9_0 := blk_frozen BK103.out 0; have hfz9_1 := blk_frozen BK103.out 1; have hfz9_2 := blk_frozen BK103.out 2; have hcz10_0 : w6.cell? ⟨gb101, 0, none⟩ = some (.string a0_0) := (blk_cell BK101.out 0).trans rfl; have hcz10_1 : w6.cell? ⟨gb101, 1, none⟩ = some (.string a0_1) := (blk_cell BK101.out 1).trans rfl; have hcz10_2 : w6.cell? ⟨gb101, 2, none⟩ = some (.slice A0_2 l0_2.length c0_2) := (blk_cell BK101.out 2).trans rfl; have hfz10_0 := blk_frozen BK101.out 0; have hfz10_1 := blk_frozen BK101.out 1; have hfz10_2 := blk_frozen BK101.out 2))
  go_loopg [14] k (fun kq v14 w' => ∃ (x14_1 : Int) (x104002_1 : List (S53)) (u104002 : Value), v14 = .int .i64 x14_1 ∧ Aside0 (colloquylaw20_of.l0 kq l0_2 (l0_2.length : Int) x14_1 a0_0 a0_1 x104002_1 = some (r1, r2, r3)) ∧ Aside0 (kq ≤ k) ∧ Aside0 (Kd.V k46 46 w' w.heap.size (fun k_ => (P0_2_ k_ ∨ w.heap.size ≤ k_) ∧ some k_ ≠ (u104002 : Value).ownBlock ∧ k_ ≠ gb101 ∧ k_ ≠ gb102 ∧ k_ ≠ gb103) (.slice A0_2 l0_2.length c0_2) l0_2) ∧ Aside0 (Kd.V k46 46 w' w.heap.size (fun k_ => (P0_2_ k_ ∨ w.heap.size ≤ k_) ∧ some k_ ≠ (u104002 : Value).ownBlock ∧ k_ ≠ gb101 ∧ k_ ≠ gb102 ∧ k_ ≠ gb103) (.slice A0_2 l0_2.length c0_2) l0_2) ∧ Aside0 (Kd.N k53 53 w' w.heap.size (fun k_ => (P0_2_ k_ ∨ w.heap.size ≤ k_) ∧ k_ ≠ gb101 ∧ k_ ≠ gb102 ∧ k_ ≠ gb103) u104002 x104002_1) ∧ Aside0 (w'.heap[gb101]? = some (.cells #[.string a0_0, .string a0_1, (.slice A0_2 l0_2.length c0_2)] 24 (0, 0))) ∧ Aside0 (w'.heap[gb102]? = some (.cells #[.string (⟨#[]⟩ : ByteArray), .string (⟨#[]⟩ : ByteArray), (.slice none 0 0)] 29 (0, 0))) ∧ Aside0 (w'.heap[gb103]? = some (.cells #[.string a0_0, .string a0_1, u104002] 29 (0, 0))) ∧ Aside0 (Below w.heap.size w w'))
  case atStart => exact ⟨(0), (([] : List (S53))), (.slice none 0 0), (by first | rfl | (simp; done) | (simp [*]; done)), H', ⟨Nat.le_refl _⟩, ⟨by (with_reducible repeat (first | apply Kd.V_alloc | apply Kd.V_drewN | apply Kd.V_drew)); exact Kd.V_mono (Kd.V_far (p := ⟨gb103, 2, none⟩) (Kd.V_far (p := ⟨gb103, 1, none⟩) (Kd.V_far (p := ⟨gb103, 0, none⟩) (Kd.V_mono HO0_2.out (fun k_ hk => (⟨hk, hk.2⟩ : _ ∧ k_ ≠ gb103))) (fun _ hk => hk.2) (.string a0_0)) (fun _ hk => hk.2) (.string a0_1)) (fun _ hk => hk.2) (.slice none 0 0)) (fun _ hk => ⟨hk.1.1.1.1, ⟨(by simp [Value.ownBlock]), ⟨hk.1.1.1.2, ⟨hk.1.1.2, hk.1.2⟩⟩⟩⟩)⟩, ⟨by (with_reducible repeat (first | apply Kd.V_alloc | apply Kd.V_drewN | apply Kd.V_drew)); exact Kd.V_mono (Kd.V_far (p := ⟨gb103, 2, none⟩) (Kd.V_far (p := ⟨gb103, 1, none⟩) (Kd.V_far (p := ⟨gb103, 0, none⟩) (Kd.V_mono HO0_2.out (fun k_ hk => (⟨hk, hk.2⟩ : _ ∧ k_ ≠ gb103))) (fun _ hk => hk.2) (.string a0_0)) (fun _ hk => hk.2) (.string a0_1)) (fun _ hk => hk.2) (.slice none 0 0)) (fun _ hk => ⟨hk.1.1.1.1, ⟨(by simp [Value.ownBlock]), ⟨hk.1.1.1.2, ⟨hk.1.1.2, hk.1.2⟩⟩⟩⟩)⟩, ⟨by first | exact Kd.S_nil _ _ _ _ _ | exact Kd.N_nil _ _ _ _ _ | exact Kd.V_nil _ _ _ _ _ | exact Kd.Q_nil _ _ _ _ _ | exact Kd.R_nil _ _ _ _ _⟩, ⟨by (with_reducible repeat (first | refine blk_drewN ?_ _ | refine blk_drew ?_ | refine blk_alloc ?_ _)); refine blk_far ?_ NB101_103.out _; (with_reducible repeat (first | refine blk_drewN ?_ _ | refine blk_drew ?_ | refine blk_alloc ?_ _)); refine blk_far ?_ NB101_103.out _; (with_reducible repeat (first | refine blk_drewN ?_ _ | refine blk_drew ?_ | refine blk_alloc ?_ _)); refine blk_far ?_ NB101_103.out _; (with_reducible repeat (first | refine blk_drewN ?_ _ | refine blk_drew ?_ | refine blk_alloc ?_ _)); exact BK101.out⟩, ⟨by (with_reducible repeat (first | refine blk_drewN ?_ _ | refine blk_drew ?_ | refine blk_alloc ?_ _)); refine blk_far ?_ NB102_103.out _; (with_reducible repeat (first | refine blk_drewN ?_ _ | refine blk_drew ?_ | refine blk_alloc ?_ _)); refine blk_far ?_ NB102_103.out _; (with_reducible repeat (first | refine blk_drewN ?_ _ | refine blk_drew ?_ | refine blk_alloc ?_ _)); refine blk_far ?_ NB102_103.out _; (with_reducible repeat (first | refine blk_drewN ?_ _ | refine blk_drew ?_ | refine blk_alloc ?_ _)); exact BK102.out⟩, ⟨by (with_reducible repeat (first | refine blk_drewN ?_ _ | refine blk_drew ?_ | refine blk_alloc ?_ _)); refine blk_put (cs := #[.string a0_0, .string a0_1, .slice none 0 0]) ?_ 2 _ rfl; (with_reducible repeat (first | refine blk_drewN ?_ _ | refine blk_drew ?_ | refine blk_alloc ?_ _)); refine blk_put (cs := #[.string a0_0, .string (⟨#[]⟩ : ByteArray), .slice none 0 0]) ?_ 1 _ rfl; (with_reducible repeat (first | refine blk_drewN ?_ _ | refine blk_drew ?_ | refine blk_alloc ?_ _)); refine blk_put (cs := #[.string (⟨#[]⟩ : ByteArray), .string (⟨#[]⟩ : ByteArray), .slice none 0 0]) ?_ 0 _ rfl; (with_reducible repeat (first | refine blk_drewN ?_ _ | refine blk_drew ?_ | refine blk_alloc ?_ _)); exact BK103.out⟩, ⟨by repeat (first | (with_reducible first | exact HB.out | apply below_alloc | apply pw_below_drewN | apply below_drew1 | refine below_set ?_ GE101.out | refine below_set ?_ GE102.out | refine below_set ?_ GE103.out) | exact HB.out)⟩⟩
  case round =>
    clear H'
    try clear c1
    try clear p2
    try clear c4
    try clear c7
    try clear c8
    try clear hcz10_0
    try clear hcz10_1
    try clear hcz10_2
    try clear hcz5_0
    try clear hcz5_1
    try clear hcz5_2
    try clear hcz9_0
    try clear hcz9_1
    try clear hcz9_2
    try clear hfz10_0
    try clear hfz10_1
    try clear hfz10_2
    try clear hfz5_0
    try clear hfz5_1
    try clear hfz5_2
    try clear hfz9_0
    try clear hfz9_1
    try clear hfz9_2
    obtain ⟨x14_1, x104002_1, u104002, rfl, HA, HK1, HO_12, HO_102002, HO_104002, BK101, BK102, BK103, HB⟩ := hrel
    cases gk with
    | zero => exact absurd HA.out (by simp [colloquylaw20_of.l0])
    | succ k1 =>
      have H := HA.out
      clear HA
      simp only [colloquylaw20_of.l0] at H
      by_cases c11 : x14_1 < (l0_2.length : Int)
      · rw [if_pos c11] at H
        have c11b0 : decide (x14_1 < (l0_2.length : Int)) = true := decide_eq_true c11
        clear c11
        by_cases c12 : 0 ≤ x14_1
        · rw [if_pos c12] at H
          have c12b0 : decide (0 ≤ x14_1) = true := decide_eq_true c12
          clear c12
          by_cases c13 : x14_1 < (l0_2.length : Int)
          · rw [if_pos c13] at H
            have c13b0 : decide (x14_1 < (l0_2.length : Int)) = true := decide_eq_true c13
            clear c13
            by_cases c14 : x104002_1.length < 3518437208883
            · rw [if_pos c14] at H
              have LMc14 := Aside0.mk c14
              clear c14
              obtain ⟨y106, hy106⟩ : ∃ y_ : List (S53), y_ = (x104002_1 ++ [(⟨(rd_T46 l0_2 x14_1).f0, (rd_T46 l0_2 x14_1).f1⟩ : S53)]) := ⟨_, rfl⟩
              replace H : (colloquylaw20_of.l0 k1 l0_2 (l0_2.length : Int) (wrap64 (x14_1 + 1)) a0_0 a0_1 y106) = some (r1, r2, r3) := by first | (rw [hy106]; with_reducible exact H) | (have H2_ := (Option.bind_some _ _).symm.trans H; rw [hy106]; with_reducible exact H2_) | (have H2_ := (Option.bind_some _ _).symm.trans H; with_reducible exact H2_) | with_reducible exact H | (rw [hy106]; exact H) | exact H
              have Ny106 := Aside0.mk hy106
              clear hy106
              have H' := Aside0.mk H
              clear H
              have p104 : 0 ≤ (x14_1 : Int) := of_decide_eq_true (by first | (with_reducible assumption) | assumption)
              have q104 : x14_1 < (l0_2.length : Int) := of_decide_eq_true (by first | (with_reducible assumption) | assumption)
              obtain ⟨ad104, A104_1, c104_1, e104, hx104_0, hx104_1, hl104_1, hi104_1⟩ := at_T46 (Kd.V_reads' HO_12.out).2.2 x14_1 p104 q104
              cases e104
              obtain ⟨ce104, hce104, hMe104, hcc104⟩ := Kd.V_get HO_12.out z46 x14_1 p104 (by first | exact q104 | exact of_decide_eq_true (by first | (with_reducible assumption) | assumption) | (have e_ := (Kd.V_reads' HO_12.out).1; omega))
              obtain ⟨ua104_1, uc104_1, rfl, ul104_1, ge104_1⟩ := k46_openF hMe104
              have hv104_1 := hcc104 1 _ rfl
              rw [add_field _ _ 1 (by omega)] at hv104_1
              replace hv104_1 := Option.some.inj (hv104_1.symm.trans hx104_1)
              injection hv104_1 with hva_ hvn_ hvc_
              rw [hva_] at ge104_1
              rw [hvc_] at ul104_1
              have HL104_1 := Aside0.mk (show Kd.V k49 49 _ w.heap.size _ _ ((rd_T46 l0_2 x14_1).f1) from Kd.V_mk ul104_1 ge104_1)
              clear hva_ hvn_ hvc_ ge104_1 ul104_1
              clear hcc104 hce104
              have HR104_1 := Aside0.mk hi104_1
              have HC104_1 := Aside0.mk hl104_1
              clear hi104_1 hl104_1
              replace p104 := eq_true p104
              replace q104 := eq_true q104
              go_wp2_with (first | ((with_reducible refine gate_dst (N := 5) rfl ?_); refine box_event ?hg (N := 5) ?hd (cs := #[.string (⟨#[]⟩ : ByteArray), .slice none 0 0]) (t := 46) ?hr ?_; (case hd => rfl); (case hg => rfl); (case hr => first | (go_simp; done) | (go_simp; rfl)); intro gb105 hg w15 hbox hb; have n0_ := Aside0.mk (Kd.V_below (Kd.V_elderB (by (with_reducible repeat (first | apply Kd.V_alloc | apply Kd.V_drewN | apply Kd.V_drew)); exact HO_12.out) gb105 (Nat.le_of_eq hg.symm)) hb); have n1_ := Aside0.mk (Kd.V_below (Kd.V_elderB (by (with_reducible repeat (first | apply Kd.V_alloc | apply Kd.V_drewN | apply Kd.V_drew)); exact HO_102002.out) gb105 (Nat.le_of_eq hg.symm)) hb); have n2_ := Aside0.mk (Kd.N_below (Kd.N_elderB (by (with_reducible repeat (first | apply Kd.N_alloc | apply Kd.N_drewN | apply Kd.N_drew)); exact HO_104002.out) gb105 (Nat.le_of_eq hg.symm)) hb); have n3_ := Aside0.mk (Kd.V_below (Kd.V_elderB (by (with_reducible repeat (first | apply Kd.V_alloc | apply Kd.V_drewN | apply Kd.V_drew)); exact HL104_1.out) gb105 (Nat.le_of_eq hg.symm)) hb); have n4_ := Aside0.mk (blk_below (g := gb101) (o := .cells #[.string a0_0, .string a0_1, .slice (some ad104) l0_2.length c0_2] 24 (0, 0)) (by (with_reducible repeat (first | refine blk_drewN ?_ _ | refine blk_drew ?_ | refine blk_alloc ?_ _)); exact BK101.out) hb); have n5_ := Aside0.mk (blk_below (g := gb102) (o := .cells #[.string (⟨#[]⟩ : ByteArray), .string (⟨#[]⟩ : ByteArray), .slice none 0 0] 29 (0, 0)) (by (with_reducible repeat (first | refine blk_drewN ?_ _ | refine blk_drew ?_ | refine blk_alloc ?_ _)); exact BK102.out) hb); have n6_ := Aside0.mk (blk_below (g := gb103) (o := .cells #[.string a0_0, .string a0_1, u104002] 29 (0, 0)) (by (with_reducible repeat (first | refine blk_drewN ?_ _ | refine blk_drew ?_ | refine blk_alloc ?_ _)); exact BK103.out) hb); have n7_ := Aside0.mk (Kd.C_below (by repeat (first | (with_reducible exact HR104_1.out) | (with_reducible refine Kd.C_alloc ?_ _) | (with_reducible refine Kd.C_drewN ?_ _) | (with_reducible refine Kd.C_drew ?_) | exact HR104_1.out)) hb); have n8_ := Aside0.mk (below_step (by repeat (first | (with_reducible first | exact HB.out | apply below_alloc | apply pw_below_drewN | apply below_drew1 | refine below_set ?_ GE101.out | refine below_set ?_ GE102.out | refine below_set ?_ GE103.out) | exact HB.out)) hb); have n9_ := Aside0.mk (hbox); have n10_ := Aside0.mk ((by rw [hg]; exact (below_size (by repeat (first | (with_reducible first | exact HB.out | apply below_alloc | apply pw_below_drewN | apply below_drew1 | refine below_set ?_ GE101.out | refine below_set ?_ GE102.out | refine below_set ?_ GE103.out) | exact HB.out))) : w.heap.size ≤ gb105)); have n11_ := Aside0.mk ((by rw [hg]; exact (below_size (by repeat (first | (with_reducible first | exact HB.out | apply below_alloc | apply pw_below_drewN | apply below_drew1 | refine below_set ?_ GE101.out | refine below_set ?_ GE102.out | refine below_set ?_ GE103.out) | exact HB.out))) : w.heap.size ≤ gb105)); have n12_ := Aside0.mk ((by rw [hg]; exact Nat.ne_of_lt (blk_lt (g := gb101) (o := .cells #[.string a0_0, .string a0_1, .slice (some ad104) l0_2.length c0_2] 24 (0, 0)) (by (with_reducible repeat (first | refine blk_drewN ?_ _ | refine blk_drew ?_ | refine blk_alloc ?_ _)); exact BK101.out)) : gb101 ≠ gb105)); have n13_ := Aside0.mk ((by rw [hg]; exact Nat.ne_of_gt (blk_lt (g := gb101) (o := .cells #[.string a0_0, .string a0_1, .slice (some ad104) l0_2.length c0_2] 24 (0, 0)) (by (with_reducible repeat (first | refine blk_drewN ?_ _ | refine blk_drew ?_ | refine blk_alloc ?_ _)); exact BK101.out)) : gb105 ≠ gb101)); have n14_ := Aside0.mk ((by rw [hg]; exact Nat.ne_of_lt (blk_lt (g := gb102) (o := .cells #[.string (⟨#[]⟩ : ByteArray), .string (⟨#[]⟩ : ByteArray), .slice none 0 0] 29 (0, 0)) (by (with_reducible repeat (first | refine blk_drewN ?_ _ | refine blk_drew ?_ | refine blk_alloc ?_ _)); exact BK102.out)) : gb102 ≠ gb105)); have n15_ := Aside0.mk ((by rw [hg]; exact Nat.ne_of_gt (blk_lt (g := gb102) (o := .cells #[.string (⟨#[]⟩ : ByteArray), .string (⟨#[]⟩ : ByteArray), .slice none 0 0] 29 (0, 0)) (by (with_reducible repeat (first | refine blk_drewN ?_ _ | refine blk_drew ?_ | refine blk_alloc ?_ _)); exact BK102.out)) : gb105 ≠ gb102)); have n16_ := Aside0.mk ((by rw [hg]; exact Nat.ne_of_lt (blk_lt (g := gb103) (o := .cells #[.string a0_0, .string a0_1, u104002] 29 (0, 0)) (by (with_reducible repeat (first | refine blk_drewN ?_ _ | refine blk_drew ?_ | refine blk_alloc ?_ _)); exact BK103.out)) : gb103 ≠ gb105)); have n17_ := Aside0.mk ((by rw [hg]; exact Nat.ne_of_gt (blk_lt (g := gb103) (o := .cells #[.string a0_0, .string a0_1, u104002] 29 (0, 0)) (by (with_reducible repeat (first | refine blk_drewN ?_ _ | refine blk_drew ?_ | refine blk_alloc ?_ _)); exact BK103.out)) : gb105 ≠ gb103)); clear HO_12; clear HO_102002; clear HO_104002; clear HL104_1; clear BK101; clear BK102; clear BK103; clear HR104_1; clear HB; have HO_12 := n0_; have HO_102002 := n1_; have HO_104002 := n2_; have HL104_1 := n3_; have BK101 := n4_; have BK102 := n5_; have BK103 := n6_; have HR104_1 := n7_; have HB := n8_; have BK105 := n9_; have GW105 := n10_; have GE105 := n11_; have NB101_105 := n12_; have NB105_101 := n13_; have NB102_105 := n14_; have NB105_102 := n15_; have NB103_105 := n16_; have NB105_103 := n17_; clear n0_ n1_ n2_ n3_ n4_ n5_ n6_ n7_ n8_ n9_ n10_ n11_ n12_ n13_ n14_ n15_ n16_ n17_; clear hb hbox hg; have hnb16 := NB105_101.out; have hnc16 := NB101_105.out; have hnb17 := NB105_102.out; have hnc17 := NB102_105.out; have hnb18 := NB105_103.out; have hnc18 := NB103_105.out; have hcz19_0 : w15.cell? ⟨gb105, 0, none⟩ = some (.string (⟨#[]⟩ : ByteArray)) := (blk_cell BK105.out 0).trans rfl; have hcz19_1 : w15.cell? ⟨gb105, 1, none⟩ = some (.slice none 0 0) := (blk_cell BK105.out 1).trans rfl; have hfz19_0 := blk_frozen BK105.out 0; have hfz19_1 := blk_frozen BK105.out 1) | ((with_reducible refine gate_store (t := 46) (p := 5) rfl ?_); refine store_event (t := 46) (p := 5) (v := ?vo_w20) (w1 := ((w15.setCell ⟨gb105, 0, none⟩ (.string ((rd_T46 l0_2 x14_1).f0))).setCell ⟨gb105, 1, none⟩ (.slice A104_1 ((rd_T46 l0_2 x14_1).f1).length c104_1))) ?hg ?ho ?hn ?hr ?_; (case ho => rfl); (case hg => rfl); (case hn => rfl); (case hr => first | (go_simp; done) | (go_simp; rfl)); intro w20 hw; have n0_ : Aside0 (Kd.V k46 46 w20 w.heap.size (fun k_ => (P0_2_ k_ ∨ w.heap.size ≤ k_) ∧ some k_ ≠ (u104002 : Value).ownBlock ∧ k_ ≠ gb101 ∧ k_ ≠ gb102 ∧ k_ ≠ gb103 ∧ k_ ≠ gb105) (.slice (some ad104) l0_2.length c0_2) l0_2) := ⟨(by rw [hw]; exact (by (with_reducible repeat (first | apply Kd.V_alloc | apply Kd.V_drewN | apply Kd.V_drew)); exact Kd.V_mono (Kd.V_far (p := ⟨gb105, 1, none⟩) (Kd.V_far (p := ⟨gb105, 0, none⟩) (Kd.V_mono HO_12.out (fun k_ hk => (⟨hk, hk.2⟩ : _ ∧ k_ ≠ gb105))) (fun _ hk => hk.2) (.string ((rd_T46 l0_2 x14_1).f0))) (fun _ hk => hk.2) (.slice A104_1 ((rd_T46 l0_2 x14_1).f1).length c104_1)) (fun _ hk => ⟨hk.1.1.1, ⟨hk.1.1.2.1, ⟨hk.1.1.2.2.1, ⟨hk.1.1.2.2.2.1, ⟨hk.1.1.2.2.2.2, hk.1.2⟩⟩⟩⟩⟩)))⟩; have n1_ : Aside0 (Kd.V k46 46 w20 w.heap.size (fun k_ => (P0_2_ k_ ∨ w.heap.size ≤ k_) ∧ some k_ ≠ (u104002 : Value).ownBlock ∧ k_ ≠ gb101 ∧ k_ ≠ gb102 ∧ k_ ≠ gb103 ∧ k_ ≠ gb105) (.slice (some ad104) l0_2.length c0_2) l0_2) := ⟨(by rw [hw]; exact (by (with_reducible repeat (first | apply Kd.V_alloc | apply Kd.V_drewN | apply Kd.V_drew)); exact Kd.V_mono (Kd.V_far (p := ⟨gb105, 1, none⟩) (Kd.V_far (p := ⟨gb105, 0, none⟩) (Kd.V_mono HO_102002.out (fun k_ hk => (⟨hk, hk.2⟩ : _ ∧ k_ ≠ gb105))) (fun _ hk => hk.2) (.string ((rd_T46 l0_2 x14_1).f0))) (fun _ hk => hk.2) (.slice A104_1 ((rd_T46 l0_2 x14_1).f1).length c104_1)) (fun _ hk => ⟨hk.1.1.1, ⟨hk.1.1.2.1, ⟨hk.1.1.2.2.1, ⟨hk.1.1.2.2.2.1, ⟨hk.1.1.2.2.2.2, hk.1.2⟩⟩⟩⟩⟩)))⟩; have n2_ : Aside0 (Kd.N k53 53 w20 w.heap.size (fun k_ => (P0_2_ k_ ∨ w.heap.size ≤ k_) ∧ k_ ≠ gb101 ∧ k_ ≠ gb102 ∧ k_ ≠ gb103 ∧ k_ ≠ gb105) u104002 x104002_1) := ⟨(by rw [hw]; exact (by (with_reducible repeat (first | apply Kd.N_alloc | apply Kd.N_drewN | apply Kd.N_drew)); exact Kd.N_mono (Kd.N_far (p := ⟨gb105, 1, none⟩) (Kd.N_far (p := ⟨gb105, 0, none⟩) (Kd.N_mono HO_104002.out (fun k_ hk => (⟨hk, hk.2⟩ : _ ∧ k_ ≠ gb105))) (fun _ hk => hk.2) (.string ((rd_T46 l0_2 x14_1).f0))) (fun _ hk => hk.2) (.slice A104_1 ((rd_T46 l0_2 x14_1).f1).length c104_1)) (fun _ hk => ⟨hk.1.1.1, ⟨hk.1.1.2.1, ⟨hk.1.1.2.2.1, ⟨hk.1.1.2.2.2, hk.1.2⟩⟩⟩⟩)))⟩; have n3_ : Aside0 (Kd.V k49 49 w20 w.heap.size (fun k_ => (P0_2_ k_ ∨ w.heap.size ≤ k_) ∧ some k_ ≠ (u104002 : Value).ownBlock ∧ k_ ≠ gb101 ∧ k_ ≠ gb102 ∧ k_ ≠ gb103 ∧ k_ ≠ gb105) (.slice A104_1 ((rd_T46 l0_2 x14_1).f1).length c104_1) ((rd_T46 l0_2 x14_1).f1)) := ⟨(by rw [hw]; exact (by (with_reducible repeat (first | apply Kd.V_alloc | apply Kd.V_drewN | apply Kd.V_drew)); exact Kd.V_mono (Kd.V_far (p := ⟨gb105, 1, none⟩) (Kd.V_far (p := ⟨gb105, 0, none⟩) (Kd.V_mono HL104_1.out (fun k_ hk => (⟨hk, hk.2⟩ : _ ∧ k_ ≠ gb105))) (fun _ hk => hk.2) (.string ((rd_T46 l0_2 x14_1).f0))) (fun _ hk => hk.2) (.slice A104_1 ((rd_T46 l0_2 x14_1).f1).length c104_1)) (fun _ hk => ⟨hk.1.1.1, ⟨hk.1.1.2.1, ⟨hk.1.1.2.2.1, ⟨hk.1.1.2.2.2.1, ⟨hk.1.1.2.2.2.2, hk.1.2⟩⟩⟩⟩⟩)))⟩; have n4_ : Aside0 (w20.heap[gb101]? = some (.cells #[.string a0_0, .string a0_1, .slice (some ad104) l0_2.length c0_2] 24 (0, 0))) := ⟨(by rw [hw]; exact (by (with_reducible repeat (first | refine blk_drewN ?_ _ | refine blk_drew ?_ | refine blk_alloc ?_ _)); refine blk_far ?_ NB101_105.out _; (with_reducible repeat (first | refine blk_drewN ?_ _ | refine blk_drew ?_ | refine blk_alloc ?_ _)); refine blk_far ?_ NB101_105.out _; (with_reducible repeat (first | refine blk_drewN ?_ _ | refine blk_drew ?_ | refine blk_alloc ?_ _)); exact BK101.out))⟩; have n5_ : Aside0 (w20.heap[gb102]? = some (.cells #[.string (⟨#[]⟩ : ByteArray), .string (⟨#[]⟩ : ByteArray), .slice none 0 0] 29 (0, 0))) := ⟨(by rw [hw]; exact (by (with_reducible repeat (first | refine blk_drewN ?_ _ | refine blk_drew ?_ | refine blk_alloc ?_ _)); refine blk_far ?_ NB102_105.out _; (with_reducible repeat (first | refine blk_drewN ?_ _ | refine blk_drew ?_ | refine blk_alloc ?_ _)); refine blk_far ?_ NB102_105.out _; (with_reducible repeat (first | refine blk_drewN ?_ _ | refine blk_drew ?_ | refine blk_alloc ?_ _)); exact BK102.out))⟩; have n6_ : Aside0 (w20.heap[gb103]? = some (.cells #[.string a0_0, .string a0_1, u104002] 29 (0, 0))) := ⟨(by rw [hw]; exact (by (with_reducible repeat (first | refine blk_drewN ?_ _ | refine blk_drew ?_ | refine blk_alloc ?_ _)); refine blk_far ?_ NB103_105.out _; (with_reducible repeat (first | refine blk_drewN ?_ _ | refine blk_drew ?_ | refine blk_alloc ?_ _)); refine blk_far ?_ NB103_105.out _; (with_reducible repeat (first | refine blk_drewN ?_ _ | refine blk_drew ?_ | refine blk_alloc ?_ _)); exact BK103.out))⟩; have n7_ : Aside0 (w20.heap[gb105]? = some (.cells #[.string ((rd_T46 l0_2 x14_1).f0), .slice A104_1 ((rd_T46 l0_2 x14_1).f1).length c104_1] 46 (0, 0))) := ⟨(by rw [hw]; exact (by (with_reducible repeat (first | refine blk_drewN ?_ _ | refine blk_drew ?_ | refine blk_alloc ?_ _)); refine blk_put (cs := #[.string ((rd_T46 l0_2 x14_1).f0), .slice none 0 0]) ?_ 1 _ rfl; (with_reducible repeat (first | refine blk_drewN ?_ _ | refine blk_drew ?_ | refine blk_alloc ?_ _)); refine blk_put (cs := #[.string (⟨#[]⟩ : ByteArray), .slice none 0 0]) ?_ 0 _ rfl; (with_reducible repeat (first | refine blk_drewN ?_ _ | refine blk_drew ?_ | refine blk_alloc ?_ _)); exact BK105.out))⟩; have n8_ : Aside0 (Below w.heap.size w w20) := ⟨(by rw [hw]; exact (by repeat (first | (with_reducible first | exact HB.out | apply below_alloc | apply pw_below_drewN | apply below_drew1 | refine below_set ?_ GE101.out | refine below_set ?_ GE102.out | refine below_set ?_ GE103.out | refine below_set ?_ GE105.out) | exact HB.out)))⟩; clear hw; clear HO_12; clear HO_102002; clear HO_104002; clear HL104_1; clear BK101; clear BK102; clear BK103; clear BK105; clear HB; have HO_12 := n0_; have HO_102002 := n1_; have HO_104002 := n2_; have HL104_1 := n3_; have BK101 := n4_; have BK102 := n5_; have BK103 := n6_; have BK105 := n7_; have HB := n8_; clear n0_ n1_ n2_ n3_ n4_ n5_ n6_ n7_ n8_; have hnb21 := NB103_101.out; have hnc21 := NB101_103.out; have hnb22 := NB103_102.out; have hnc22 := NB102_103.out; have hcz23_0 : w20.cell? ⟨gb103, 0, none⟩ = some (.string a0_0) := (blk_cell BK103.out 0).trans rfl; have hcz23_1 : w20.cell? ⟨gb103, 1, none⟩ = some (.string a0_1) := (blk_cell BK103.out 1).trans rfl; have hcz23_2 : w20.cell? ⟨gb103, 2, none⟩ = some (u104002) := (blk_cell BK103.out 2).trans rfl; have hfz23_0 := blk_frozen BK103.out 0; have hfz23_1 := blk_frozen BK103.out 1; have hfz23_2 := blk_frozen BK103.out 2; have hcz24_0 : w20.cell? ⟨gb105, 0, none⟩ = some (.string ((rd_T46 l0_2 x14_1).f0)) := (blk_cell BK105.out 0).trans rfl; have hcz24_1 : w20.cell? ⟨gb105, 1, none⟩ = some (.slice A104_1 ((rd_T46 l0_2 x14_1).f1).length c104_1) := (blk_cell BK105.out 1).trans rfl; have hfz24_0 := blk_frozen BK105.out 0; have hfz24_1 := blk_frozen BK105.out 1) | ((with_reducible refine gate_builtin (b := .append) (xs := #[.tmp 19, .tmp 25]) rfl ?_); at_builtin; refine Kd.N_append k53 (w0 := w) w.heap.size rfl (.tmp 19) (.tmp 25) 27 53 (.agg #[(.string ⟨#[]⟩), (.slice none 0 0)]) 40 rfl Tryd.underlying27 info53 rfl (by decide) (by omega) u104002 x104002_1 (⟨(rd_T46 l0_2 x14_1).f0, (rd_T46 l0_2 x14_1).f1⟩ : S53) [.string ((rd_T46 l0_2 x14_1).f0), .slice A104_1 ((rd_T46 l0_2 x14_1).f1).length c104_1] (fun k_ => (P0_2_ k_ ∨ w.heap.size ≤ k_) ∧ k_ ≠ gb101 ∧ k_ ≠ gb102 ∧ k_ ≠ gb103 ∧ k_ ≠ gb105) (fun k_ => ((fun k_ => (P0_2_ k_ ∨ w.heap.size ≤ k_) ∧ k_ ≠ gb101 ∧ k_ ≠ gb102 ∧ k_ ≠ gb103 ∧ k_ ≠ gb105)) k_ ∧ some k_ ≠ (u104002 : Value).ownBlock) rfl rfl ?aP (fun _ hk => hk) ?aF ?aO ?aB ?aS ?aL ?_; (case aP => exact (k53_mkF _ _ (⟨(rd_T46 l0_2 x14_1).f0, (rd_T46 l0_2 x14_1).f1⟩ : S53) (Kd.V_reads' (Kd.V_mono (ok' := (fun k_ => ((fun k_ => (P0_2_ k_ ∨ w.heap.size ≤ k_) ∧ k_ ≠ gb101 ∧ k_ ≠ gb102 ∧ k_ ≠ gb103 ∧ k_ ≠ gb105)) k_ ∧ some k_ ≠ (u104002 : Value).ownBlock)) (HL104_1.out) (fun k_ hk => ⟨⟨hk.1, ⟨hk.2.2.1, ⟨hk.2.2.2.1, ⟨hk.2.2.2.2.1, hk.2.2.2.2.2⟩⟩⟩⟩, hk.2.1⟩))).2.1 (Kd.V_F (Kd.V_mono (ok' := (fun k_ => ((fun k_ => (P0_2_ k_ ∨ w.heap.size ≤ k_) ∧ k_ ≠ gb101 ∧ k_ ≠ gb102 ∧ k_ ≠ gb103 ∧ k_ ≠ gb105)) k_ ∧ some k_ ≠ (u104002 : Value).ownBlock)) (HL104_1.out) (fun k_ hk => ⟨⟨hk.1, ⟨hk.2.2.1, ⟨hk.2.2.2.1, ⟨hk.2.2.2.2.1, hk.2.2.2.2.2⟩⟩⟩⟩, hk.2.1⟩))))); (case aB => exact (by repeat (first | (with_reducible first | exact HB.out | apply below_alloc | apply pw_below_drewN | apply below_drew1 | refine below_set ?_ GE101.out | refine below_set ?_ GE102.out | refine below_set ?_ GE103.out | refine below_set ?_ GE105.out) | exact HB.out))); (case aF => exact (fun k_ hk => ⟨(.inr (Nat.le_trans (below_size (by repeat (first | (with_reducible first | exact HB.out | apply below_alloc | apply pw_below_drewN | apply below_drew1 | refine below_set ?_ GE101.out | refine below_set ?_ GE102.out | refine below_set ?_ GE103.out | refine below_set ?_ GE105.out) | exact HB.out))) hk)), Kd.freshB (g := gb101) (o := .cells #[.string a0_0, .string a0_1, .slice (some ad104) l0_2.length c0_2] 24 (0, 0)) (by (with_reducible repeat (first | refine blk_drewN ?_ _ | refine blk_drew ?_ | refine blk_alloc ?_ _)); exact BK101.out) k_ hk, Kd.freshB (g := gb102) (o := .cells #[.string (⟨#[]⟩ : ByteArray), .string (⟨#[]⟩ : ByteArray), .slice none 0 0] 29 (0, 0)) (by (with_reducible repeat (first | refine blk_drewN ?_ _ | refine blk_drew ?_ | refine blk_alloc ?_ _)); exact BK102.out) k_ hk, Kd.freshB (g := gb103) (o := .cells #[.string a0_0, .string a0_1, u104002] 29 (0, 0)) (by (with_reducible repeat (first | refine blk_drewN ?_ _ | refine blk_drew ?_ | refine blk_alloc ?_ _)); exact BK103.out) k_ hk, Kd.freshB (g := gb105) (o := .cells #[.string ((rd_T46 l0_2 x14_1).f0), .slice A104_1 ((rd_T46 l0_2 x14_1).f1).length c104_1] 46 (0, 0)) (by (with_reducible repeat (first | refine blk_drewN ?_ _ | refine blk_drew ?_ | refine blk_alloc ?_ _)); exact BK105.out) k_ hk⟩)); (case aO => exact (by (with_reducible repeat (first | apply Kd.N_alloc | apply Kd.N_drewN | apply Kd.N_drew)); exact HO_104002.out)); (case aS => exact (below_size (by repeat (first | (with_reducible first | exact HB.out | apply below_alloc | apply pw_below_drewN | apply below_drew1 | refine below_set ?_ GE101.out | refine below_set ?_ GE102.out | refine below_set ?_ GE103.out | refine below_set ?_ GE105.out) | exact HB.out)))); (case aL => have := LMc14.out; omega); intro v107 w25 ho hb hg hat; rw [← Ny106.out] at ho; have n0_ := Aside0.mk (Kd.V_afterv (ok := (fun k_ => (P0_2_ k_ ∨ w.heap.size ≤ k_) ∧ k_ ≠ gb101 ∧ k_ ≠ gb102 ∧ k_ ≠ gb103 ∧ k_ ≠ gb105)) (by (with_reducible repeat (first | apply Kd.V_alloc | apply Kd.V_drewN | apply Kd.V_drew)); exact Kd.V_mono HO_12.out (fun _ hk => ⟨⟨hk.1, ⟨hk.2.2.1, ⟨hk.2.2.2.1, ⟨hk.2.2.2.2.1, hk.2.2.2.2.2⟩⟩⟩⟩, hk.2.1⟩)) hg hat); have n1_ := Aside0.mk (Kd.V_afterv (ok := (fun k_ => (P0_2_ k_ ∨ w.heap.size ≤ k_) ∧ k_ ≠ gb101 ∧ k_ ≠ gb102 ∧ k_ ≠ gb103 ∧ k_ ≠ gb105)) (by (with_reducible repeat (first | apply Kd.V_alloc | apply Kd.V_drewN | apply Kd.V_drew)); exact Kd.V_mono HO_102002.out (fun _ hk => ⟨⟨hk.1, ⟨hk.2.2.1, ⟨hk.2.2.2.1, ⟨hk.2.2.2.2.1, hk.2.2.2.2.2⟩⟩⟩⟩, hk.2.1⟩)) hg hat); have n2_ := Aside0.mk (blk_grown (g := gb101) (o := .cells #[.string a0_0, .string a0_1, .slice (some ad104) l0_2.length c0_2] 24 (0, 0)) (by (with_reducible repeat (first | refine blk_drewN ?_ _ | refine blk_drew ?_ | refine blk_alloc ?_ _)); exact BK101.out) hg (Kd.N_ne HO_104002.out BK101.out (by decide))); have n3_ := Aside0.mk (blk_grown (g := gb102) (o := .cells #[.string (⟨#[]⟩ : ByteArray), .string (⟨#[]⟩ : ByteArray), .slice none 0 0] 29 (0, 0)) (by (with_reducible repeat (first | refine blk_drewN ?_ _ | refine blk_drew ?_ | refine blk_alloc ?_ _)); exact BK102.out) hg (Kd.N_ne HO_104002.out BK102.out (by decide))); have n4_ := Aside0.mk (blk_grown (g := gb103) (o := .cells #[.string a0_0, .string a0_1, u104002] 29 (0, 0)) (by (with_reducible repeat (first | refine blk_drewN ?_ _ | refine blk_drew ?_ | refine blk_alloc ?_ _)); exact BK103.out) hg (Kd.N_ne HO_104002.out BK103.out (by decide))); have n5_ := Aside0.mk (Kd.V_afterv (ok := (fun k_ => (P0_2_ k_ ∨ w.heap.size ≤ k_) ∧ k_ ≠ gb101 ∧ k_ ≠ gb102 ∧ k_ ≠ gb103 ∧ k_ ≠ gb105)) (by (with_reducible repeat (first | apply Kd.V_alloc | apply Kd.V_drewN | apply Kd.V_drew)); exact Kd.V_mono HL104_1.out (fun _ hk => ⟨⟨hk.1, ⟨hk.2.2.1, ⟨hk.2.2.2.1, ⟨hk.2.2.2.2.1, hk.2.2.2.2.2⟩⟩⟩⟩, hk.2.1⟩)) hg hat); have n6_ := Aside0.mk (blk_grown (g := gb105) (o := .cells #[.string ((rd_T46 l0_2 x14_1).f0), .slice A104_1 ((rd_T46 l0_2 x14_1).f1).length c104_1] 46 (0, 0)) (by (with_reducible repeat (first | refine blk_drewN ?_ _ | refine blk_drew ?_ | refine blk_alloc ?_ _)); exact BK105.out) hg (Kd.N_ne HO_104002.out BK105.out (by decide))); have n7_ := Aside0.mk (hb); have n8_ := Aside0.mk (ho); clear HO_12; clear HO_102002; clear BK101; clear BK102; clear BK103; clear HL104_1; clear BK105; clear HB; clear HO_104002; have HO_12 := n0_; have HO_102002 := n1_; have BK101 := n2_; have BK102 := n3_; have BK103 := n4_; have HL104_1 := n5_; have BK105 := n6_; have HB := n7_; have HO108 := n8_; clear n0_ n1_ n2_ n3_ n4_ n5_ n6_ n7_ n8_; clear ho hb hg hat; obtain ⟨Ao26, co26, eo26⟩ := Kd.N_slice HO108.out; subst eo26; have hcz27_0 : w25.cell? ⟨gb103, 0, none⟩ = some (.string a0_0) := (blk_cell BK103.out 0).trans rfl; have hcz27_1 : w25.cell? ⟨gb103, 1, none⟩ = some (.string a0_1) := (blk_cell BK103.out 1).trans rfl; have hcz27_2 : w25.cell? ⟨gb103, 2, none⟩ = some (u104002) := (blk_cell BK103.out 2).trans rfl; have hfz27_0 := blk_frozen BK103.out 0; have hfz27_1 := blk_frozen BK103.out 1; have hfz27_2 := blk_frozen BK103.out 2))
              go_roundg k1
              case measure => have := HK1.out; omega
              case rel => exact ⟨(wrap64 (x14_1 + 1)), (y106), (.slice Ao26 y106.length co26), (by first | rfl | (simp; done) | (simp [*]; done)), H', ⟨by have := HK1.out; omega⟩, ⟨by (with_reducible repeat (first | apply Kd.V_alloc | apply Kd.V_drewN | apply Kd.V_drew)); exact Kd.V_mono (Kd.V_far (p := ⟨gb103, 2, none⟩) (Kd.V_mono HO_12.out (fun k_ hk => (⟨hk, hk.1.2.2.2.1⟩ : _ ∧ k_ ≠ gb103))) (fun _ hk => hk.2) (.slice Ao26 y106.length co26)) (fun _ hk => ⟨hk.1.1.1, ⟨hk.1.2, ⟨hk.1.1.2.1, ⟨hk.1.1.2.2.1, hk.1.1.2.2.2.1⟩⟩⟩⟩)⟩, ⟨by (with_reducible repeat (first | apply Kd.V_alloc | apply Kd.V_drewN | apply Kd.V_drew)); exact Kd.V_mono (Kd.V_far (p := ⟨gb103, 2, none⟩) (Kd.V_mono HO_102002.out (fun k_ hk => (⟨hk, hk.1.2.2.2.1⟩ : _ ∧ k_ ≠ gb103))) (fun _ hk => hk.2) (.slice Ao26 y106.length co26)) (fun _ hk => ⟨hk.1.1.1, ⟨hk.1.2, ⟨hk.1.1.2.1, ⟨hk.1.1.2.2.1, hk.1.1.2.2.2.1⟩⟩⟩⟩)⟩, ⟨by (with_reducible repeat (first | apply Kd.N_alloc | apply Kd.N_drewN | apply Kd.N_drew)); exact Kd.N_mono (Kd.N_far (p := ⟨gb103, 2, none⟩) (Kd.N_mono HO108.out (fun k_ hk => (⟨hk, hk.2.2.2.1⟩ : _ ∧ k_ ≠ gb103))) (fun _ hk => hk.2) (.slice Ao26 y106.length co26)) (fun _ hk => ⟨hk.1.1, ⟨hk.1.2.1, ⟨hk.1.2.2.1, hk.1.2.2.2.1⟩⟩⟩)⟩, ⟨by (with_reducible repeat (first | refine blk_drewN ?_ _ | refine blk_drew ?_ | refine blk_alloc ?_ _)); refine blk_far ?_ NB101_103.out _; (with_reducible repeat (first | refine blk_drewN ?_ _ | refine blk_drew ?_ | refine blk_alloc ?_ _)); exact BK101.out⟩, ⟨by (with_reducible repeat (first | refine blk_drewN ?_ _ | refine blk_drew ?_ | refine blk_alloc ?_ _)); refine blk_far ?_ NB102_103.out _; (with_reducible repeat (first | refine blk_drewN ?_ _ | refine blk_drew ?_ | refine blk_alloc ?_ _)); exact BK102.out⟩, ⟨by (with_reducible repeat (first | refine blk_drewN ?_ _ | refine blk_drew ?_ | refine blk_alloc ?_ _)); refine blk_put (cs := #[.string a0_0, .string a0_1, u104002]) ?_ 2 _ rfl; (with_reducible repeat (first | refine blk_drewN ?_ _ | refine blk_drew ?_ | refine blk_alloc ?_ _)); exact BK103.out⟩, ⟨by repeat (first | (with_reducible first | exact HB.out | apply below_alloc | apply pw_below_drewN | apply below_drew1 | refine below_set ?_ GE101.out | refine below_set ?_ GE102.out | refine below_set ?_ GE103.out | refine below_set ?_ GE105.out) | exact HB.out)⟩⟩
            · rw [if_neg c14] at H
              exact absurd H (by simp)
          · rw [if_neg c13] at H
            exact absurd H (by simp)
        · rw [if_neg c12] at H
          exact absurd H (by simp)
      · rw [if_neg c11] at H
        have c11b0 : decide (x14_1 < (l0_2.length : Int)) = false := decide_eq_false c11
        clear c11
        simp only [Option.some.injEq, Prod.mk.injEq] at H
        obtain ⟨rfl, rfl, rfl⟩ := H
        have hnb28 := NB103_101.out
        have hnc28 := NB101_103.out
        have hnb29 := NB103_102.out
        have hnc29 := NB102_103.out
        have hcz30_0 : wr.cell? ⟨gb103, 0, none⟩ = some (.string a0_0) := (blk_cell BK103.out 0).trans rfl
        have hcz30_1 : wr.cell? ⟨gb103, 1, none⟩ = some (.string a0_1) := (blk_cell BK103.out 1).trans rfl
        have hcz30_2 : wr.cell? ⟨gb103, 2, none⟩ = some (u104002) := (blk_cell BK103.out 2).trans rfl
        have hfz30_0 := blk_frozen BK103.out 0
        have hfz30_1 := blk_frozen BK103.out 1
        have hfz30_2 := blk_frozen BK103.out 2
        have hnb31 := NB102_101.out
        have hnc31 := NB101_102.out
        have hcz32_0 : wr.cell? ⟨gb102, 0, none⟩ = some (.string (⟨#[]⟩ : ByteArray)) := (blk_cell BK102.out 0).trans rfl
        have hcz32_1 : wr.cell? ⟨gb102, 1, none⟩ = some (.string (⟨#[]⟩ : ByteArray)) := (blk_cell BK102.out 1).trans rfl
        have hcz32_2 : wr.cell? ⟨gb102, 2, none⟩ = some (.slice none 0 0) := (blk_cell BK102.out 2).trans rfl
        have hfz32_0 := blk_frozen BK102.out 0
        have hfz32_1 := blk_frozen BK102.out 1
        have hfz32_2 := blk_frozen BK102.out 2
        obtain ⟨Ao33, co33, eo33⟩ := Kd.N_slice HO_104002.out
        subst eo33
        go_wp2
        refine bodyPost_ret (results_cell_row rfl _ _ gb102 29 #[.string a0_0, .string a0_1, .slice Ao33 x104002_1.length co33] (0, 0) _ rfl (by (with_reducible repeat (first | refine blk_drewN ?_ _ | refine blk_drew ?_ | refine blk_alloc ?_ _)); refine blk_put (cs := #[.string a0_0, .string a0_1, .slice none 0 0]) ?_ 2 _ rfl; (with_reducible repeat (first | refine blk_drewN ?_ _ | refine blk_drew ?_ | refine blk_alloc ?_ _)); refine blk_put (cs := #[.string a0_0, .string (⟨#[]⟩ : ByteArray), .slice none 0 0]) ?_ 1 _ rfl; (with_reducible repeat (first | refine blk_drewN ?_ _ | refine blk_drew ?_ | refine blk_alloc ?_ _)); refine blk_put (cs := #[.string (⟨#[]⟩ : ByteArray), .string (⟨#[]⟩ : ByteArray), .slice none 0 0]) ?_ 0 _ rfl; (with_reducible repeat (first | refine blk_drewN ?_ _ | refine blk_drew ?_ | refine blk_alloc ?_ _)); exact BK102.out) Tryd.underlying29 rfl (by kernel_rfl)) rfl ?_
        exact ⟨_, by first | rfl | (simp [errW_none, errW_some] <;> rfl) | (simp [*, errW_none, errW_some] <;> rfl), by (with_reducible repeat (first | apply Kd.N_alloc | apply Kd.N_drewN | apply Kd.N_drew)); exact Kd.N_mono (Kd.N_far (p := ⟨gb102, 2, none⟩) (Kd.N_far (p := ⟨gb102, 1, none⟩) (Kd.N_far (p := ⟨gb102, 0, none⟩) (Kd.N_mono HO_104002.out (fun k_ hk => (⟨hk, hk.2.2.1⟩ : _ ∧ k_ ≠ gb102))) (fun _ hk => hk.2) (.string a0_0)) (fun _ hk => hk.2) (.string a0_1)) (fun _ hk => hk.2) (.slice Ao33 x104002_1.length co33)) (fun _ hk => hk.1.1), by repeat (first | (with_reducible first | exact HB.out | apply below_alloc | apply pw_below_drewN | apply below_drew1 | refine below_set ?_ GE101.out | refine below_set ?_ GE102.out | refine below_set ?_ GE103.out) | exact HB.out)⟩
end
section
attribute [local go_sem] max2_int min2_int max_two min_two max_three min_three max_four min_four   -- for this text's walks alone
def colloquylaw20_first.f  : Option (ByteArray × ByteArray × (List (S46))) := some ((⟨#[115]⟩ : ByteArray), (⟨#[98]⟩ : ByteArray), (([(⟨(⟨#[103]⟩ : ByteArray), (([(⟨(⟨#[116]⟩ : ByteArray), 1⟩ : S49)] : List (S49)))⟩ : S46)] : List (S46))))
theorem colloquylaw20_first.calls  (r1 : ByteArray) (r2 : ByteArray) (r3 : List (S46)) (w : World) (h : colloquylaw20_first.f  = some (r1, r2, r3)) :
    Calls Tryd.prog 21 #[] w fun e w' => ∃ v2_ : Value, e = .returned (.agg #[.string r1, .string r2, v2_]) ∧ Kd.N k46 46 w' w.heap.size (fun k_ => (w.heap.size ≤ k_)) v2_ r3 ∧ Below w.heap.size w w' := by
  have hu24 := Tryd.underlying24
  have hu49 := Tryd.underlying49
  have hu46 := Tryd.underlying46
  have HB := Aside0.mk (Below.refl w.heap.size w)
  have H : (some ((⟨#[115]⟩ : ByteArray), (⟨#[98]⟩ : ByteArray), (([(⟨(⟨#[103]⟩ : ByteArray), (([(⟨(⟨#[116]⟩ : ByteArray), 1⟩ : S49)] : List (S49)))⟩ : S46)] : List (S46))))) = some (r1, r2, r3) := h
  clear h
  obtain ⟨y196, hy196⟩ : ∃ y_ : List (S49), y_ = (([(⟨(⟨#[116]⟩ : ByteArray), 1⟩ : S49)] : List (S49))) := ⟨_, rfl⟩
  replace H : (some ((⟨#[115]⟩ : ByteArray), (⟨#[98]⟩ : ByteArray), (([(⟨(⟨#[103]⟩ : ByteArray), y196⟩ : S46)] : List (S46))))) = some (r1, r2, r3) := by first | (rw [hy196]; with_reducible exact H) | (have H2_ := (Option.bind_some _ _).symm.trans H; rw [hy196]; with_reducible exact H2_) | (have H2_ := (Option.bind_some _ _).symm.trans H; with_reducible exact H2_) | with_reducible exact H | (rw [hy196]; exact H) | exact H
  have Ny196 := Aside0.mk hy196
  clear hy196
  obtain ⟨y199, hy199⟩ : ∃ y_ : List (S46), y_ = (([(⟨(⟨#[103]⟩ : ByteArray), y196⟩ : S46)] : List (S46))) := ⟨_, rfl⟩
  replace H : (some ((⟨#[115]⟩ : ByteArray), (⟨#[98]⟩ : ByteArray), y199)) = some (r1, r2, r3) := by first | (rw [hy199]; with_reducible exact H) | (have H2_ := (Option.bind_some _ _).symm.trans H; rw [hy199]; with_reducible exact H2_) | (have H2_ := (Option.bind_some _ _).symm.trans H; with_reducible exact H2_) | with_reducible exact H | (rw [hy199]; exact H) | exact H
  have Ny199 := Aside0.mk hy199
  clear hy199
  simp only [Option.some.injEq, Prod.mk.injEq] at H
  obtain ⟨rfl, rfl, rfl⟩ := H
  go_enter Tryd.func21, Tryd.ntmps21
  go_wp2_with (first | ((with_reducible refine gate_dst (N := 0) rfl ?_); refine box_event ?hg (N := 0) ?hd (cs := #[.string (⟨#[]⟩ : ByteArray), .string (⟨#[]⟩ : ByteArray), .slice none 0 0]) (t := 24) ?hr ?_; (case hd => rfl); (case hg => rfl); (case hr => first | (go_simp; done) | (go_simp; rfl)); intro gb195 hg w1 hbox hb; have n0_ := Aside0.mk (below_step (by repeat (first | (with_reducible first | exact HB.out | apply below_alloc | apply pw_below_drewN | apply below_drew1) | exact HB.out)) hb); have n1_ := Aside0.mk (hbox); have n2_ := Aside0.mk ((by rw [hg]; exact (below_size (by repeat (first | (with_reducible first | exact HB.out | apply below_alloc | apply pw_below_drewN | apply below_drew1) | exact HB.out))) : w.heap.size ≤ gb195)); have n3_ := Aside0.mk ((by rw [hg]; exact (below_size (by repeat (first | (with_reducible first | exact HB.out | apply below_alloc | apply pw_below_drewN | apply below_drew1) | exact HB.out))) : w.heap.size ≤ gb195)); clear HB; have HB := n0_; have BK195 := n1_; have GW195 := n2_; have GE195 := n3_; clear n0_ n1_ n2_ n3_; clear hb hbox hg) | ((with_reducible refine gate_dst (N := 2) rfl ?_); refine Kd.R_lit k49 _ 49 ?hg (N := 2) ?hd (xs := ([(⟨(⟨#[116]⟩ : ByteArray), 1⟩ : S49)] : List (S49))) (inner := [.string (⟨#[116]⟩ : ByteArray), .int .i64 1]) (ok := fun _ => True) (okp := fun _ => True) ?hr ?hp (fun _ hk => hk) trivial (Below.refl _ _) (Nat.le_refl _) (by simp) ?_; (case hd => rfl); (case hg => rfl); (case hr => first | (go_simp; done) | (go_simp; rfl)); (case hp => exact (Reps.c2 (show Kd.M k49 _ _ _ (⟨(⟨#[116]⟩ : ByteArray), 1⟩ : S49) [.string (⟨#[116]⟩ : ByteArray), .int .i64 1] from (k49_mkM _ _ _ (⟨(⟨#[116]⟩ : ByteArray), 1⟩ : S49) )) (Reps.none _ _))); intro v197 w2 ho3 hb hg_ hnew_; clear hg_ hnew_; (first | rw [← Ny196.out] at ho3 | (simp only [Int.reduceToNat] at ho3; rw [← Ny196.out] at ho3)); have n0_ := Aside0.mk (Kd.R_lower (Kd.R_newM (M := fun k_ => (w.heap.size ≤ k_)) ho3 (below_size (by repeat (first | (with_reducible first | exact HB.out | apply below_alloc | apply pw_below_drewN | apply below_drew1 | refine below_set ?_ GE195.out) | exact HB.out))) (fun k_ h_ => h_)) (below_size (by repeat (first | (with_reducible first | exact HB.out | apply below_alloc | apply pw_below_drewN | apply below_drew1 | refine below_set ?_ GE195.out) | exact HB.out)))); have n1_ := Aside0.mk (blk_below (g := gb195) (o := .cells #[.string (⟨#[]⟩ : ByteArray), .string (⟨#[]⟩ : ByteArray), .slice none 0 0] 24 (0, 0)) (by (with_reducible repeat (first | refine blk_drewN ?_ _ | refine blk_drew ?_ | refine blk_alloc ?_ _)); exact BK195.out) hb); have n2_ := Aside0.mk (below_step (by repeat (first | (with_reducible first | exact HB.out | apply below_alloc | apply pw_below_drewN | apply below_drew1 | refine below_set ?_ GE195.out) | exact HB.out)) hb); clear BK195; clear HB; have HO198 := n0_; have BK195 := n1_; have HB := n2_; clear n0_ n1_ n2_; clear hb ho3; obtain ⟨Ao4, co4, eo4⟩ := Kd.R_slice HO198.out; subst eo4) | ((with_reducible refine gate_dst (N := 4) rfl ?_); refine Kd.N_lit k46 _ 46 ?hg (N' := 4) ?hd (xs := ([(⟨(⟨#[103]⟩ : ByteArray), y196⟩ : S46)] : List (S46))) (inner := [.string (⟨#[103]⟩ : ByteArray), .slice Ao4 y196.length co4]) (ok := (fun k_ => (w.heap.size ≤ k_) ∧ k_ ≠ gb195)) (okp := (fun k_ => (w.heap.size ≤ k_) ∧ k_ ≠ gb195)) ?hr ?hp (fun _ hk => hk) ((show ∀ k_, w2.heap.size ≤ k_ → (fun k_ => (w.heap.size ≤ k_) ∧ k_ ≠ gb195) k_ from fun k_ hk => ⟨(Nat.le_trans (below_size (by repeat (first | (with_reducible first | exact HB.out | apply below_alloc | apply pw_below_drewN | apply below_drew1 | refine below_set ?_ GE195.out) | exact HB.out))) hk), Kd.freshB (g := gb195) (o := .cells #[.string (⟨#[]⟩ : ByteArray), .string (⟨#[]⟩ : ByteArray), .slice none 0 0] 24 (0, 0)) (by (with_reducible repeat (first | refine blk_drewN ?_ _ | refine blk_drew ?_ | refine blk_alloc ?_ _)); exact BK195.out) k_ hk⟩) _ (Nat.le_refl _)) (Below.refl _ _) (Nat.le_refl _) (by simp) ?_; (case hd => rfl); (case hg => rfl); (case hr => first | (go_simp; done) | (go_simp; rfl)); (case hp => exact (Reps.c2 (show Kd.FK k46 _ _ (⟨(⟨#[103]⟩ : ByteArray), y196⟩ : S46) [.string (⟨#[103]⟩ : ByteArray), .slice Ao4 y196.length co4] from (k46_mkF _ _ (⟨(⟨#[103]⟩ : ByteArray), y196⟩ : S46) (Kd.R_reads' (Kd.R_mono (ok' := (fun k_ => (w.heap.size ≤ k_) ∧ k_ ≠ gb195)) (Kd.R_types (HO198.out) BK195.out (by decide)) (fun k_ hk => ⟨hk.1.1, hk.2⟩))).2.1 (Kd.R_F (Kd.R_mono (ok' := (fun k_ => (w.heap.size ≤ k_) ∧ k_ ≠ gb195)) (Kd.R_types (HO198.out) BK195.out (by decide)) (fun k_ hk => ⟨hk.1.1, hk.2⟩))))) (Reps.none _ _))); intro v200 w5 ho6 hb hg_ hnew_; clear hg_ hnew_; (first | rw [← Ny199.out] at ho6 | (simp only [Int.reduceToNat] at ho6; rw [← Ny199.out] at ho6)); have n0_ := Aside0.mk (Kd.N_lower ho6 (below_size (by repeat (first | (with_reducible first | exact HB.out | apply below_alloc | apply pw_below_drewN | apply below_drew1 | refine below_set ?_ GE195.out) | exact HB.out)))); have n1_ := Aside0.mk (blk_below (g := gb195) (o := .cells #[.string (⟨#[]⟩ : ByteArray), .string (⟨#[]⟩ : ByteArray), .slice none 0 0] 24 (0, 0)) (by (with_reducible repeat (first | refine blk_drewN ?_ _ | refine blk_drew ?_ | refine blk_alloc ?_ _)); exact BK195.out) hb); have n2_ := Aside0.mk (below_step (by repeat (first | (with_reducible first | exact HB.out | apply below_alloc | apply pw_below_drewN | apply below_drew1 | refine below_set ?_ GE195.out) | exact HB.out)) hb); clear BK195; clear HB; clear HO198; have HO201 := n0_; have BK195 := n1_; have HB := n2_; clear n0_ n1_ n2_; clear hb ho6; obtain ⟨Ao7, co7, eo7⟩ := Kd.N_slice HO201.out; subst eo7; have hcz8_0 : w5.cell? ⟨gb195, 0, none⟩ = some (.string (⟨#[]⟩ : ByteArray)) := (blk_cell BK195.out 0).trans rfl; have hcz8_1 : w5.cell? ⟨gb195, 1, none⟩ = some (.string (⟨#[]⟩ : ByteArray)) := (blk_cell BK195.out 1).trans rfl; have hcz8_2 : w5.cell? ⟨gb195, 2, none⟩ = some (.slice none 0 0) := (blk_cell BK195.out 2).trans rfl; have hfz8_0 := blk_frozen BK195.out 0; have hfz8_1 := blk_frozen BK195.out 1; have hfz8_2 := blk_frozen BK195.out 2))
  refine bodyPost_ret (results_cell_row rfl _ _ gb195 24 #[.string (⟨#[115]⟩ : ByteArray), .string (⟨#[98]⟩ : ByteArray), .slice Ao7 y199.length co7] (0, 0) _ rfl (by (with_reducible repeat (first | refine blk_drewN ?_ _ | refine blk_drew ?_ | refine blk_alloc ?_ _)); refine blk_put (cs := #[.string (⟨#[115]⟩ : ByteArray), .string (⟨#[98]⟩ : ByteArray), .slice none 0 0]) ?_ 2 _ rfl; (with_reducible repeat (first | refine blk_drewN ?_ _ | refine blk_drew ?_ | refine blk_alloc ?_ _)); refine blk_put (cs := #[.string (⟨#[115]⟩ : ByteArray), .string (⟨#[]⟩ : ByteArray), .slice none 0 0]) ?_ 1 _ rfl; (with_reducible repeat (first | refine blk_drewN ?_ _ | refine blk_drew ?_ | refine blk_alloc ?_ _)); refine blk_put (cs := #[.string (⟨#[]⟩ : ByteArray), .string (⟨#[]⟩ : ByteArray), .slice none 0 0]) ?_ 0 _ rfl; (with_reducible repeat (first | refine blk_drewN ?_ _ | refine blk_drew ?_ | refine blk_alloc ?_ _)); exact BK195.out) Tryd.underlying24 rfl (by kernel_rfl)) rfl ?_
  exact ⟨_, by first | rfl | (simp [errW_none, errW_some] <;> rfl) | (simp [*, errW_none, errW_some] <;> rfl), by (with_reducible repeat (first | apply Kd.N_alloc | apply Kd.N_drewN | apply Kd.N_drew)); exact Kd.N_mono (Kd.N_far (p := ⟨gb195, 2, none⟩) (Kd.N_far (p := ⟨gb195, 1, none⟩) (Kd.N_far (p := ⟨gb195, 0, none⟩) (Kd.N_mono HO201.out (fun k_ hk => (⟨hk, hk.2⟩ : _ ∧ k_ ≠ gb195))) (fun _ hk => hk.2) (.string (⟨#[115]⟩ : ByteArray))) (fun _ hk => hk.2) (.string (⟨#[98]⟩ : ByteArray))) (fun _ hk => hk.2) (.slice Ao7 y199.length co7)) (fun _ hk => hk.1.1), by repeat (first | (with_reducible first | exact HB.out | apply below_alloc | apply pw_below_drewN | apply below_drew1 | refine below_set ?_ GE195.out) | exact HB.out)⟩
end
section
attribute [local go_sem] max2_int min2_int max_two min_two max_three min_three max_four min_four   -- for this text's walks alone
theorem eqA49 (d : Nat) (w : World) (x0 y0 : ByteArray) (x1 y1 : Int) :
    (Op.equalIn (d + 2) 49 (.agg #[.string x0, .int .i64 x1]) (.agg #[.string y0, .int .i64 y1])).run Tryd.prog w = .ok (x0.toList == y0.toList && (x1 == y1)) w := by
  refine eqA_of Tryd.underlying49 (by kernel_rfl) ?_
  refine eqf_cons (by rfl) (by go_simp; rfl) (by go_simp; rfl) (by go_simp) ?_
  exact eqf_last (by rfl) (by go_simp; rfl) (by go_simp; rfl) (by go_simp)
end
section
attribute [local go_sem] max2_int min2_int max_two min_two max_three min_three max_four min_four   -- for this text's walks alone
attribute [local go_sem high] eqA49
mutual
def colloquyref20_Same.j0 : Nat → Bool → ByteArray → ByteArray → List (S53) → ByteArray → ByteArray → List (S53) → Option (Bool)
  | 0, _, _, _, _, _, _, _ => none
  | k + 1, x27, x185000, x185001, x185002, x186000, x186001, x186002 => if x27 = true then (some false) else (colloquyref20_Same.l0 k 0 x185000 x185001 x185002 x186000 x186001 x186002)
def colloquyref20_Same.l0 : Nat → Int → ByteArray → ByteArray → List (S53) → ByteArray → ByteArray → List (S53) → Option (Bool)
  | 0, _, _, _, _, _, _, _ => none
  | k + 1, x5, x185000, x185001, x185002, x186000, x186001, x186002 => if x5 < (x185002.length : Int) then (if 0 ≤ x5 then (if x5 < (x186002.length : Int) then (if ((rd_T53 x185002 x5).f0).toList = ((rd_T53 x186002 x5).f0).toList then (colloquyref20_Same.j2 k x5 ((((rd_T53 x185002 x5).f1).length : Int) != (((rd_T53 x186002 x5).f1).length : Int)) x185000 x185001 x185002 x186000 x186001 x186002) else (colloquyref20_Same.j2 k x5 true x185000 x185001 x185002 x186000 x186001 x186002)) else (none)) else (none)) else (some true)
def colloquyref20_Same.j2 : Nat → Int → Bool → ByteArray → ByteArray → List (S53) → ByteArray → ByteArray → List (S53) → Option (Bool)
  | 0, _, _, _, _, _, _, _, _ => none
  | k + 1, x5, x64, x185000, x185001, x185002, x186000, x186001, x186002 => if x64 = true then (some false) else (colloquyref20_Same.l1 k x5 0 x185000 x185001 x185002 x186000 x186001 x186002)
def colloquyref20_Same.l1 : Nat → Int → Int → ByteArray → ByteArray → List (S53) → ByteArray → ByteArray → List (S53) → Option (Bool)
  | 0, _, _, _, _, _, _, _, _ => none
  | k + 1, x5, x6, x185000, x185001, x185002, x186000, x186001, x186002 => if 0 ≤ x5 then (if x5 < (x185002.length : Int) then (if x6 < (((rd_T53 x185002 x5).f1).length : Int) then (if 0 ≤ x6 then (if x5 < (x186002.length : Int) then (if x6 < (((rd_T53 x186002 x5).f1).length : Int) then (if (!((((rd_T49 ((rd_T53 x185002 x5).f1) x6).f0).toList) == (((rd_T49 ((rd_T53 x186002 x5).f1) x6).f0).toList)) || (!(((rd_T49 ((rd_T53 x185002 x5).f1) x6).f1) == ((rd_T49 ((rd_T53 x186002 x5).f1) x6).f1)))) = true then (some false) else (colloquyref20_Same.l1 k x5 (wrap64 (x6 + 1)) x185000 x185001 x185002 x186000 x186001 x186002)) else (none)) else (none)) else (none)) else (colloquyref20_Same.l0 k (wrap64 (x5 + 1)) x185000 x185001 x185002 x186000 x186001 x186002)) else (none)) else (none)
end
def colloquyref20_Same.f (k : Nat) (a0_0 : ByteArray) (a0_1 : ByteArray) (l0_2 : List (S53)) (a1_0 : ByteArray) (a1_1 : ByteArray) (l1_2 : List (S53)) : Option (Bool) := if a0_0.toList = a1_0.toList then (if a0_1.toList = a1_1.toList then (colloquyref20_Same.j0 k ((l0_2.length : Int) != (l1_2.length : Int)) a0_0 a0_1 l0_2 a1_0 a1_1 l1_2) else (colloquyref20_Same.j0 k true a0_0 a0_1 l0_2 a1_0 a1_1 l1_2)) else (colloquyref20_Same.j0 k true a0_0 a0_1 l0_2 a1_0 a1_1 l1_2)
theorem colloquyref20_Same.mono_l : ∀ k, (∀ y0 y1 y2 y3 y4 y5 y6, LeO (colloquyref20_Same.j0 k y0 y1 y2 y3 y4 y5 y6) (colloquyref20_Same.j0 (k + 1) y0 y1 y2 y3 y4 y5 y6)) ∧ (∀ y0 y1 y2 y3 y4 y5 y6, LeO (colloquyref20_Same.l0 k y0 y1 y2 y3 y4 y5 y6) (colloquyref20_Same.l0 (k + 1) y0 y1 y2 y3 y4 y5 y6)) ∧ (∀ y0 y1 y2 y3 y4 y5 y6 y7, LeO (colloquyref20_Same.j2 k y0 y1 y2 y3 y4 y5 y6 y7) (colloquyref20_Same.j2 (k + 1) y0 y1 y2 y3 y4 y5 y6 y7)) ∧ (∀ y0 y1 y2 y3 y4 y5 y6 y7, LeO (colloquyref20_Same.l1 k y0 y1 y2 y3 y4 y5 y6 y7) (colloquyref20_Same.l1 (k + 1) y0 y1 y2 y3 y4 y5 y6 y7))
  | 0 => ⟨fun _ _ _ _ _ _ _ r h => by simp [colloquyref20_Same.j0] at h, fun _ _ _ _ _ _ _ r h => by simp [colloquyref20_Same.l0] at h, fun _ _ _ _ _ _ _ _ r h => by simp [colloquyref20_Same.j2] at h, fun _ _ _ _ _ _ _ _ r h => by simp [colloquyref20_Same.l1] at h⟩
  | k + 1 => by
    obtain ⟨ih0, ih1, ih2, ih3⟩ := colloquyref20_Same.mono_l k
    refine ⟨?_, ?_, ?_, ?_⟩
    · intro y0 y1 y2 y3 y4 y5 y6
      unfold colloquyref20_Same.j0
      repeat' first
      | (with_reducible exact ih0 _ _ _ _ _ _ _)
      | (with_reducible exact ih1 _ _ _ _ _ _ _)
      | (with_reducible exact ih2 _ _ _ _ _ _ _ _)
      | (with_reducible exact ih3 _ _ _ _ _ _ _ _)
      | (with_reducible exact LeO.refl _)
      | (with_reducible exact LeO.none _)
      | (with_reducible refine LeO.ite ?_ ?_)
      | (with_reducible refine LeO.bind ?_ (fun _ => ?_))
      | exact ih0 _ _ _ _ _ _ _
      | exact ih1 _ _ _ _ _ _ _
      | exact ih2 _ _ _ _ _ _ _ _
      | exact ih3 _ _ _ _ _ _ _ _
      | exact LeO.none _
      | refine LeO.ite ?_ ?_
      | refine LeO.bind ?_ (fun _ => ?_)
    · intro y0 y1 y2 y3 y4 y5 y6
      unfold colloquyref20_Same.l0
      repeat' first
      | (with_reducible exact ih0 _ _ _ _ _ _ _)
      | (with_reducible exact ih1 _ _ _ _ _ _ _)
      | (with_reducible exact ih2 _ _ _ _ _ _ _ _)
      | (with_reducible exact ih3 _ _ _ _ _ _ _ _)
      | (with_reducible exact LeO.refl _)
      | (with_reducible exact LeO.none _)
      | (with_reducible refine LeO.ite ?_ ?_)
      | (with_reducible refine LeO.bind ?_ (fun _ => ?_))
      | exact ih0 _ _ _ _ _ _ _
      | exact ih1 _ _ _ _ _ _ _
      | exact ih2 _ _ _ _ _ _ _ _
      | exact ih3 _ _ _ _ _ _ _ _
      | exact LeO.none _
      | refine LeO.ite ?_ ?_
      | refine LeO.bind ?_ (fun _ => ?_)
    · intro y0 y1 y2 y3 y4 y5 y6 y7
      unfold colloquyref20_Same.j2
      repeat' first
      | (with_reducible exact ih0 _ _ _ _ _ _ _)
      | (with_reducible exact ih1 _ _ _ _ _ _ _)
      | (with_reducible exact ih2 _ _ _ _ _ _ _ _)
      | (with_reducible exact ih3 _ _ _ _ _ _ _ _)
      | (with_reducible exact LeO.refl _)
      | (with_reducible exact LeO.none _)
      | (with_reducible refine LeO.ite ?_ ?_)
      | (with_reducible refine LeO.bind ?_ (fun _ => ?_))
      | exact ih0 _ _ _ _ _ _ _
      | exact ih1 _ _ _ _ _ _ _
      | exact ih2 _ _ _ _ _ _ _ _
      | exact ih3 _ _ _ _ _ _ _ _
      | exact LeO.none _
      | refine LeO.ite ?_ ?_
      | refine LeO.bind ?_ (fun _ => ?_)
    · intro y0 y1 y2 y3 y4 y5 y6 y7
      unfold colloquyref20_Same.l1
      repeat' first
      | (with_reducible exact ih0 _ _ _ _ _ _ _)
      | (with_reducible exact ih1 _ _ _ _ _ _ _)
      | (with_reducible exact ih2 _ _ _ _ _ _ _ _)
      | (with_reducible exact ih3 _ _ _ _ _ _ _ _)
      | (with_reducible exact LeO.refl _)
      | (with_reducible exact LeO.none _)
      | (with_reducible refine LeO.ite ?_ ?_)
      | (with_reducible refine LeO.bind ?_ (fun _ => ?_))
      | exact ih0 _ _ _ _ _ _ _
      | exact ih1 _ _ _ _ _ _ _
      | exact ih2 _ _ _ _ _ _ _ _
      | exact ih3 _ _ _ _ _ _ _ _
      | exact LeO.none _
      | refine LeO.ite ?_ ?_
      | refine LeO.bind ?_ (fun _ => ?_)
theorem colloquyref20_Same.mono : ∀ a0 a1 a2 a3 a4 a5 k, LeO (colloquyref20_Same.f k a0 a1 a2 a3 a4 a5) (colloquyref20_Same.f (k + 1) a0 a1 a2 a3 a4 a5) := by
  intro a0 a1 a2 a3 a4 a5 k
  obtain ⟨ih0, ih1, ih2, ih3⟩ := colloquyref20_Same.mono_l k
  unfold colloquyref20_Same.f
  repeat' first
      | (with_reducible exact ih0 _ _ _ _ _ _ _)
      | (with_reducible exact ih1 _ _ _ _ _ _ _)
      | (with_reducible exact ih2 _ _ _ _ _ _ _ _)
      | (with_reducible exact ih3 _ _ _ _ _ _ _ _)
      | (with_reducible exact LeO.refl _)
      | (with_reducible exact LeO.none _)
      | (with_reducible refine LeO.ite ?_ ?_)
      | (with_reducible refine LeO.bind ?_ (fun _ => ?_))
      | exact ih0 _ _ _ _ _ _ _
      | exact ih1 _ _ _ _ _ _ _
      | exact ih2 _ _ _ _ _ _ _ _
      | exact ih3 _ _ _ _ _ _ _ _
      | exact LeO.none _
      | refine LeO.ite ?_ ?_
      | refine LeO.bind ?_ (fun _ => ?_)
theorem colloquyref20_Same.calls (k : Nat) (a0_0 : ByteArray) (a0_1 : ByteArray) (A0_2 : Option Addr) (c0_2 : Nat) (l0_2 : List (S53)) (a1_0 : ByteArray) (a1_1 : ByteArray) (A1_2 : Option Addr) (c1_2 : Nat) (l1_2 : List (S53)) (r : Bool) (w : World) (hr0_2 : Kd.C k53 w A0_2 l0_2.length l0_2) (hc0_2 : l0_2.length ≤ c0_2) (hr1_2 : Kd.C k53 w A1_2 l1_2.length l1_2) (hc1_2 : l1_2.length ≤ c1_2) (h : colloquyref20_Same.f k a0_0 a0_1 l0_2 a1_0 a1_1 l1_2 = some r) :
    Calls Tryd.prog 20 #[.agg #[.string a0_0, .string a0_1, .slice A0_2 l0_2.length c0_2], .agg #[.string a1_0, .string a1_1, .slice A1_2 l1_2.length c1_2]] w fun e w' => e = .returned (.bool r) ∧ Below w.heap.size w w' := by
  have hu29 := Tryd.underlying29
  have hu49 := Tryd.underlying49
  have HR0_2 := Aside0.mk hr0_2
  have HC0_2 := Aside0.mk hc0_2
  clear hr0_2 hc0_2
  have HR1_2 := Aside0.mk hr1_2
  have HC1_2 := Aside0.mk hc1_2
  clear hr1_2 hc1_2
  have HB := Aside0.mk (Below.refl w.heap.size w)
  have H : (if a0_0.toList = a1_0.toList then (if a0_1.toList = a1_1.toList then (colloquyref20_Same.j0 k ((l0_2.length : Int) != (l1_2.length : Int)) a0_0 a0_1 l0_2 a1_0 a1_1 l1_2) else (colloquyref20_Same.j0 k true a0_0 a0_1 l0_2 a1_0 a1_1 l1_2)) else (colloquyref20_Same.j0 k true a0_0 a0_1 l0_2 a1_0 a1_1 l1_2)) = some r := h
  clear h
  have HC3 := Aside0.mk H
  clear H
  go_enter Tryd.func20, Tryd.ntmps20
  go_upto_region 1 with (first | ((with_reducible refine gate_dst (N := 2) rfl ?_); (try (refine gate_guard (by rfl) ?_; dsimp only)); refine box_event ?hg (N := 2) ?hd (cs := #[.string a0_0, .string a0_1, .slice A0_2 l0_2.length c0_2]) (t := 29) ?hr ?_; (case hd => rfl); (case hg => rfl); (case hr => first | (go_simp; done) | (go_simp; rfl)); intro gb184 hg w4 hbox hb; have n0_ := Aside0.mk (below_step (by repeat (first | (with_reducible first | exact HB.out | apply below_alloc | apply pw_below_drewN | apply below_drew1) | exact HB.out)) hb); have n1_ := Aside0.mk (hbox); have n2_ := Aside0.mk ((by rw [hg]; exact (below_size (by repeat (first | (with_reducible first | exact HB.out | apply below_alloc | apply pw_below_drewN | apply below_drew1) | exact HB.out))) : w.heap.size ≤ gb184)); have n3_ := Aside0.mk ((by rw [hg]; exact (below_size (by repeat (first | (with_reducible first | exact HB.out | apply below_alloc | apply pw_below_drewN | apply below_drew1) | exact HB.out))) : w.heap.size ≤ gb184)); clear HB; have HB := n0_; have BK184 := n1_; have GW184 := n2_; have GE184 := n3_; clear n0_ n1_ n2_ n3_; clear hb hbox hg) | ((with_reducible refine gate_dst (N := 3) rfl ?_); (try (refine gate_guard (by rfl) ?_; dsimp only)); refine box_event ?hg (N := 3) ?hd (cs := #[.string a1_0, .string a1_1, .slice A1_2 l1_2.length c1_2]) (t := 29) ?hr ?_; (case hd => rfl); (case hg => rfl); (case hr => first | (go_simp; done) | (go_simp; rfl)); intro gb185 hg w5 hbox hb; have n0_ := Aside0.mk (blk_below (g := gb184) (o := .cells #[.string a0_0, .string a0_1, .slice A0_2 l0_2.length c0_2] 29 (0, 0)) (by (with_reducible repeat (first | refine blk_drewN ?_ _ | refine blk_drew ?_ | refine blk_alloc ?_ _)); exact BK184.out) hb); have n1_ := Aside0.mk (below_step (by repeat (first | (with_reducible first | exact HB.out | apply below_alloc | apply pw_below_drewN | apply below_drew1 | refine below_set ?_ GE184.out) | exact HB.out)) hb); have n2_ := Aside0.mk (hbox); have n3_ := Aside0.mk ((by rw [hg]; exact (below_size (by repeat (first | (with_reducible first | exact HB.out | apply below_alloc | apply pw_below_drewN | apply below_drew1 | refine below_set ?_ GE184.out) | exact HB.out))) : w.heap.size ≤ gb185)); have n4_ := Aside0.mk ((by rw [hg]; exact (below_size (by repeat (first | (with_reducible first | exact HB.out | apply below_alloc | apply pw_below_drewN | apply below_drew1 | refine below_set ?_ GE184.out) | exact HB.out))) : w.heap.size ≤ gb185)); have n5_ := Aside0.mk ((by rw [hg]; exact Nat.ne_of_lt (blk_lt (g := gb184) (o := .cells #[.string a0_0, .string a0_1, .slice A0_2 l0_2.length c0_2] 29 (0, 0)) (by (with_reducible repeat (first | refine blk_drewN ?_ _ | refine blk_drew ?_ | refine blk_alloc ?_ _)); exact BK184.out)) : gb184 ≠ gb185)); have n6_ := Aside0.mk ((by rw [hg]; exact Nat.ne_of_gt (blk_lt (g := gb184) (o := .cells #[.string a0_0, .string a0_1, .slice A0_2 l0_2.length c0_2] 29 (0, 0)) (by (with_reducible repeat (first | refine blk_drewN ?_ _ | refine blk_drew ?_ | refine blk_alloc ?_ _)); exact BK184.out)) : gb185 ≠ gb184)); clear BK184; clear HB; have BK184 := n0_; have HB := n1_; have BK185 := n2_; have GW185 := n3_; have GE185 := n4_; have NB184_185 := n5_; have NB185_184 := n6_; clear n0_ n1_ n2_ n3_ n4_ n5_ n6_; clear hb hbox hg))
  repeat (go_quiet (first | ((with_reducible refine gate_dst (N := 2) rfl ?_); (try (refine gate_guard (by rfl) ?_; dsimp only)); refine box_event ?hg (N := 2) ?hd (cs := #[.string a0_0, .string a0_1, .slice A0_2 l0_2.length c0_2]) (t := 29) ?hr ?_; (case hd => rfl); (case hg => rfl); (case hr => first | (go_simp; done) | (go_simp; rfl)); intro gb184 hg w4 hbox hb; have n0_ := Aside0.mk (below_step (by repeat (first | (with_reducible first | exact HB.out | apply below_alloc | apply pw_below_drewN | apply below_drew1) | exact HB.out)) hb); have n1_ := Aside0.mk (hbox); have n2_ := Aside0.mk ((by rw [hg]; exact (below_size (by repeat (first | (with_reducible first | exact HB.out | apply below_alloc | apply pw_below_drewN | apply below_drew1) | exact HB.out))) : w.heap.size ≤ gb184)); have n3_ := Aside0.mk ((by rw [hg]; exact (below_size (by repeat (first | (with_reducible first | exact HB.out | apply below_alloc | apply pw_below_drewN | apply below_drew1) | exact HB.out))) : w.heap.size ≤ gb184)); clear HB; have HB := n0_; have BK184 := n1_; have GW184 := n2_; have GE184 := n3_; clear n0_ n1_ n2_ n3_; clear hb hbox hg) | ((with_reducible refine gate_dst (N := 3) rfl ?_); (try (refine gate_guard (by rfl) ?_; dsimp only)); refine box_event ?hg (N := 3) ?hd (cs := #[.string a1_0, .string a1_1, .slice A1_2 l1_2.length c1_2]) (t := 29) ?hr ?_; (case hd => rfl); (case hg => rfl); (case hr => first | (go_simp; done) | (go_simp; rfl)); intro gb185 hg w5 hbox hb; have n0_ := Aside0.mk (blk_below (g := gb184) (o := .cells #[.string a0_0, .string a0_1, .slice A0_2 l0_2.length c0_2] 29 (0, 0)) (by (with_reducible repeat (first | refine blk_drewN ?_ _ | refine blk_drew ?_ | refine blk_alloc ?_ _)); exact BK184.out) hb); have n1_ := Aside0.mk (below_step (by repeat (first | (with_reducible first | exact HB.out | apply below_alloc | apply pw_below_drewN | apply below_drew1 | refine below_set ?_ GE184.out) | exact HB.out)) hb); have n2_ := Aside0.mk (hbox); have n3_ := Aside0.mk ((by rw [hg]; exact (below_size (by repeat (first | (with_reducible first | exact HB.out | apply below_alloc | apply pw_below_drewN | apply below_drew1 | refine below_set ?_ GE184.out) | exact HB.out))) : w.heap.size ≤ gb185)); have n4_ := Aside0.mk ((by rw [hg]; exact (below_size (by repeat (first | (with_reducible first | exact HB.out | apply below_alloc | apply pw_below_drewN | apply below_drew1 | refine below_set ?_ GE184.out) | exact HB.out))) : w.heap.size ≤ gb185)); have n5_ := Aside0.mk ((by rw [hg]; exact Nat.ne_of_lt (blk_lt (g := gb184) (o := .cells #[.string a0_0, .string a0_1, .slice A0_2 l0_2.length c0_2] 29 (0, 0)) (by (with_reducible repeat (first | refine blk_drewN ?_ _ | refine blk_drew ?_ | refine blk_alloc ?_ _)); exact BK184.out)) : gb184 ≠ gb185)); have n6_ := Aside0.mk ((by rw [hg]; exact Nat.ne_of_gt (blk_lt (g := gb184) (o := .cells #[.string a0_0, .string a0_1, .slice A0_2 l0_2.length c0_2] 29 (0, 0)) (by (with_reducible repeat (first | refine blk_drewN ?_ _ | refine blk_drew ?_ | refine blk_alloc ?_ _)); exact BK184.out)) : gb185 ≠ gb184)); clear BK184; clear HB; have BK184 := n0_; have HB := n1_; have BK185 := n2_; have GW185 := n3_; have GE185 := n4_; have NB184_185 := n5_; have NB185_184 := n6_; clear n0_ n1_ n2_ n3_ n4_ n5_ n6_; clear hb hbox hg)); go_upto_region 1 with (first | ((with_reducible refine gate_dst (N := 2) rfl ?_); (try (refine gate_guard (by rfl) ?_; dsimp only)); refine box_event ?hg (N := 2) ?hd (cs := #[.string a0_0, .string a0_1, .slice A0_2 l0_2.length c0_2]) (t := 29) ?hr ?_; (case hd => rfl); (case hg => rfl); (case hr => first | (go_simp; done) | (go_simp; rfl)); intro gb184 hg w4 hbox hb; have n0_ := Aside0.mk (below_step (by repeat (first | (with_reducible first | exact HB.out | apply below_alloc | apply pw_below_drewN | apply below_drew1) | exact HB.out)) hb); have n1_ := Aside0.mk (hbox); have n2_ := Aside0.mk ((by rw [hg]; exact (below_size (by repeat (first | (with_reducible first | exact HB.out | apply below_alloc | apply pw_below_drewN | apply below_drew1) | exact HB.out))) : w.heap.size ≤ gb184)); have n3_ := Aside0.mk ((by rw [hg]; exact (below_size (by repeat (first | (with_reducible first | exact HB.out | apply below_alloc | apply pw_below_drewN | apply below_drew1) | exact HB.out))) : w.heap.size ≤ gb184)); clear HB; have HB := n0_; have BK184 := n1_; have GW184 := n2_; have GE184 := n3_; clear n0_ n1_ n2_ n3_; clear hb hbox hg) | ((with_reducible refine gate_dst (N := 3) rfl ?_); (try (refine gate_guard (by rfl) ?_; dsimp only)); refine box_event ?hg (N := 3) ?hd (cs := #[.string a1_0, .string a1_1, .slice A1_2 l1_2.length c1_2]) (t := 29) ?hr ?_; (case hd => rfl); (case hg => rfl); (case hr => first | (go_simp; done) | (go_simp; rfl)); intro gb185 hg w5 hbox hb; have n0_ := Aside0.mk (blk_below (g := gb184) (o := .cells #[.string a0_0, .string a0_1, .slice A0_2 l0_2.length c0_2] 29 (0, 0)) (by (with_reducible repeat (first | refine blk_drewN ?_ _ | refine blk_drew ?_ | refine blk_alloc ?_ _)); exact BK184.out) hb); have n1_ := Aside0.mk (below_step (by repeat (first | (with_reducible first | exact HB.out | apply below_alloc | apply pw_below_drewN | apply below_drew1 | refine below_set ?_ GE184.out) | exact HB.out)) hb); have n2_ := Aside0.mk (hbox); have n3_ := Aside0.mk ((by rw [hg]; exact (below_size (by repeat (first | (with_reducible first | exact HB.out | apply below_alloc | apply pw_below_drewN | apply below_drew1 | refine below_set ?_ GE184.out) | exact HB.out))) : w.heap.size ≤ gb185)); have n4_ := Aside0.mk ((by rw [hg]; exact (below_size (by repeat (first | (with_reducible first | exact HB.out | apply below_alloc | apply pw_below_drewN | apply below_drew1 | refine below_set ?_ GE184.out) | exact HB.out))) : w.heap.size ≤ gb185)); have n5_ := Aside0.mk ((by rw [hg]; exact Nat.ne_of_lt (blk_lt (g := gb184) (o := .cells #[.string a0_0, .string a0_1, .slice A0_2 l0_2.length c0_2] 29 (0, 0)) (by (with_reducible repeat (first | refine blk_drewN ?_ _ | refine blk_drew ?_ | refine blk_alloc ?_ _)); exact BK184.out)) : gb184 ≠ gb185)); have n6_ := Aside0.mk ((by rw [hg]; exact Nat.ne_of_gt (blk_lt (g := gb184) (o := .cells #[.string a0_0, .string a0_1, .slice A0_2 l0_2.length c0_2] 29 (0, 0)) (by (with_reducible repeat (first | refine blk_drewN ?_ _ | refine blk_drew ?_ | refine blk_alloc ?_ _)); exact BK184.out)) : gb185 ≠ gb184)); clear BK184; clear HB; have BK184 := n0_; have HB := n1_; have BK185 := n2_; have GW185 := n3_; have GE185 := n4_; have NB184_185 := n5_; have NB185_184 := n6_; clear n0_ n1_ n2_ n3_ n4_ n5_ n6_; clear hb hbox hg)))
  (try simp only [Act.put, List.setIfInBounds_toArray, List.set_cons_zero, List.set_cons_succ])
  go_cut [27] (fun v27 wc => ∃ (kq : Nat) (x27_2 : Bool), v27 = .bool x27_2 ∧ Aside0 (colloquyref20_Same.j0 kq x27_2 a0_0 a0_1 l0_2 a1_0 a1_1 l1_2 = some r) ∧ Aside0 (kq ≤ k) ∧ Aside0 (wc.heap[gb184]? = some (.cells #[.string a0_0, .string a0_1, (.slice A0_2 l0_2.length c0_2)] 29 (0, 0))) ∧ Aside0 (wc.heap[gb185]? = some (.cells #[.string a1_0, .string a1_1, (.slice A1_2 l1_2.length c1_2)] 29 (0, 0))) ∧ Aside0 (Below w.heap.size w wc))
  case first =>
    have H := HC3.out
    clear HC3
    by_cases c6 : a0_0.toList = a1_0.toList
    · rw [if_pos c6] at H
      have c6b0 : (a0_0.toList == a1_0.toList) = true := beq_iff_eq.mpr c6
      have c6b1 : (a0_0.toList != a1_0.toList) = false := bne_eq_false_iff_eq.mpr c6
      clear c6
      (first | rw [c6b0] | rw [c6b1] | (simp only [i64_w, i32_w]; rw [c6b0]) | skip)
      by_cases c7 : a0_1.toList = a1_1.toList
      · rw [if_pos c7] at H
        have c7b0 : (a0_1.toList == a1_1.toList) = true := beq_iff_eq.mpr c7
        have c7b1 : (a0_1.toList != a1_1.toList) = false := bne_eq_false_iff_eq.mpr c7
        clear c7
        have H' := Aside0.mk H
        clear H
        have hnb8 := NB184_185.out
        have hnc8 := NB185_184.out
        have hcz9_0 : w5.cell? ⟨gb184, 0, none⟩ = some (.string a0_0) := (blk_cell BK184.out 0).trans rfl
        have hcz9_1 : w5.cell? ⟨gb184, 1, none⟩ = some (.string a0_1) := (blk_cell BK184.out 1).trans rfl
        have hcz9_2 : w5.cell? ⟨gb184, 2, none⟩ = some (.slice A0_2 l0_2.length c0_2) := (blk_cell BK184.out 2).trans rfl
        have hfz9_0 := blk_frozen BK184.out 0
        have hfz9_1 := blk_frozen BK184.out 1
        have hfz9_2 := blk_frozen BK184.out 2
        have hcz10_0 : w5.cell? ⟨gb185, 0, none⟩ = some (.string a1_0) := (blk_cell BK185.out 0).trans rfl
        have hcz10_1 : w5.cell? ⟨gb185, 1, none⟩ = some (.string a1_1) := (blk_cell BK185.out 1).trans rfl
        have hcz10_2 : w5.cell? ⟨gb185, 2, none⟩ = some (.slice A1_2 l1_2.length c1_2) := (blk_cell BK185.out 2).trans rfl
        have hfz10_0 := blk_frozen BK185.out 0
        have hfz10_1 := blk_frozen BK185.out 1
        have hfz10_2 := blk_frozen BK185.out 2
        go_wp2
        repeat (go_quiet (fail); try go_wp2)
        go_meet
        case rel => exact ⟨_, (((l0_2.length : Int) != (l1_2.length : Int))), (by first | rfl | (simp; done) | (simp [*]; done)), H', ⟨by first | omega | exact Nat.le_refl _⟩, ⟨by (with_reducible repeat (first | refine blk_drewN ?_ _ | refine blk_drew ?_ | refine blk_alloc ?_ _)); exact BK184.out⟩, ⟨by (with_reducible repeat (first | refine blk_drewN ?_ _ | refine blk_drew ?_ | refine blk_alloc ?_ _)); exact BK185.out⟩, ⟨by repeat (first | (with_reducible first | exact HB.out | apply below_alloc | apply pw_below_drewN | apply below_drew1 | refine below_set ?_ GE184.out | refine below_set ?_ GE185.out) | exact HB.out)⟩⟩
      · rw [if_neg c7] at H
        have c7b0 : (a0_1.toList == a1_1.toList) = false := beq_eq_false_iff_ne.mpr c7
        have c7b1 : (a0_1.toList != a1_1.toList) = true := bne_iff_ne.mpr c7
        have H' := Aside0.mk H
        clear H
        have hnb11 := NB184_185.out
        have hnc11 := NB185_184.out
        have hcz12_0 : w5.cell? ⟨gb184, 0, none⟩ = some (.string a0_0) := (blk_cell BK184.out 0).trans rfl
        have hcz12_1 : w5.cell? ⟨gb184, 1, none⟩ = some (.string a0_1) := (blk_cell BK184.out 1).trans rfl
        have hcz12_2 : w5.cell? ⟨gb184, 2, none⟩ = some (.slice A0_2 l0_2.length c0_2) := (blk_cell BK184.out 2).trans rfl
        have hfz12_0 := blk_frozen BK184.out 0
        have hfz12_1 := blk_frozen BK184.out 1
        have hfz12_2 := blk_frozen BK184.out 2
        have hcz13_0 : w5.cell? ⟨gb185, 0, none⟩ = some (.string a1_0) := (blk_cell BK185.out 0).trans rfl
        have hcz13_1 : w5.cell? ⟨gb185, 1, none⟩ = some (.string a1_1) := (blk_cell BK185.out 1).trans rfl
        have hcz13_2 : w5.cell? ⟨gb185, 2, none⟩ = some (.slice A1_2 l1_2.length c1_2) := (blk_cell BK185.out 2).trans rfl
        have hfz13_0 := blk_frozen BK185.out 0
        have hfz13_1 := blk_frozen BK185.out 1
        have hfz13_2 := blk_frozen BK185.out 2
        go_wp2
        repeat (go_quiet (fail); try go_wp2)
        go_meet
        case rel => exact ⟨_, (true), (by first | rfl | (simp; done) | (simp [*]; done)), H', ⟨by first | omega | exact Nat.le_refl _⟩, ⟨by (with_reducible repeat (first | refine blk_drewN ?_ _ | refine blk_drew ?_ | refine blk_alloc ?_ _)); exact BK184.out⟩, ⟨by (with_reducible repeat (first | refine blk_drewN ?_ _ | refine blk_drew ?_ | refine blk_alloc ?_ _)); exact BK185.out⟩, ⟨by repeat (first | (with_reducible first | exact HB.out | apply below_alloc | apply pw_below_drewN | apply below_drew1 | refine below_set ?_ GE184.out | refine below_set ?_ GE185.out) | exact HB.out)⟩⟩
    · rw [if_neg c6] at H
      have c6b0 : (a0_0.toList == a1_0.toList) = false := beq_eq_false_iff_ne.mpr c6
      have c6b1 : (a0_0.toList != a1_0.toList) = true := bne_iff_ne.mpr c6
      (first | rw [c6b0] | rw [c6b1] | (simp only [i64_w, i32_w]; rw [c6b0]) | skip)
      have H' := Aside0.mk H
      clear H
      have hnb14 := NB184_185.out
      have hnc14 := NB185_184.out
      have hcz15_0 : w5.cell? ⟨gb184, 0, none⟩ = some (.string a0_0) := (blk_cell BK184.out 0).trans rfl
      have hcz15_1 : w5.cell? ⟨gb184, 1, none⟩ = some (.string a0_1) := (blk_cell BK184.out 1).trans rfl
      have hcz15_2 : w5.cell? ⟨gb184, 2, none⟩ = some (.slice A0_2 l0_2.length c0_2) := (blk_cell BK184.out 2).trans rfl
      have hfz15_0 := blk_frozen BK184.out 0
      have hfz15_1 := blk_frozen BK184.out 1
      have hfz15_2 := blk_frozen BK184.out 2
      have hcz16_0 : w5.cell? ⟨gb185, 0, none⟩ = some (.string a1_0) := (blk_cell BK185.out 0).trans rfl
      have hcz16_1 : w5.cell? ⟨gb185, 1, none⟩ = some (.string a1_1) := (blk_cell BK185.out 1).trans rfl
      have hcz16_2 : w5.cell? ⟨gb185, 2, none⟩ = some (.slice A1_2 l1_2.length c1_2) := (blk_cell BK185.out 2).trans rfl
      have hfz16_0 := blk_frozen BK185.out 0
      have hfz16_1 := blk_frozen BK185.out 1
      have hfz16_2 := blk_frozen BK185.out 2
      go_wp2
      repeat (go_quiet (fail); try go_wp2)
      go_meet
      case rel => exact ⟨_, (true), (by first | rfl | (simp; done) | (simp [*]; done)), H', ⟨by first | omega | exact Nat.le_refl _⟩, ⟨by (with_reducible repeat (first | refine blk_drewN ?_ _ | refine blk_drew ?_ | refine blk_alloc ?_ _)); exact BK184.out⟩, ⟨by (with_reducible repeat (first | refine blk_drewN ?_ _ | refine blk_drew ?_ | refine blk_alloc ?_ _)); exact BK185.out⟩, ⟨by repeat (first | (with_reducible first | exact HB.out | apply below_alloc | apply pw_below_drewN | apply below_drew1 | refine below_set ?_ GE184.out | refine below_set ?_ GE185.out) | exact HB.out)⟩⟩
  case rest =>
    clear HC3
    try clear c1
    try clear c2
    try clear p2
    try clear c6
    try clear c6b0
    try clear c6b1
    try clear c7
    try clear c7b0
    try clear c7b1
    try clear c8
    try clear c11
    try clear c14
    try clear hcz10_0
    try clear hcz10_1
    try clear hcz10_2
    try clear hcz12_0
    try clear hcz12_1
    try clear hcz12_2
    try clear hcz13_0
    try clear hcz13_1
    try clear hcz13_2
    try clear hcz15_0
    try clear hcz15_1
    try clear hcz15_2
    try clear hcz16_0
    try clear hcz16_1
    try clear hcz16_2
    try clear hcz9_0
    try clear hcz9_1
    try clear hcz9_2
    try clear hfz10_0
    try clear hfz10_1
    try clear hfz10_2
    try clear hfz12_0
    try clear hfz12_1
    try clear hfz12_2
    try clear hfz13_0
    try clear hfz13_1
    try clear hfz13_2
    try clear hfz15_0
    try clear hfz15_1
    try clear hfz15_2
    try clear hfz16_0
    try clear hfz16_1
    try clear hfz16_2
    try clear hfz9_0
    try clear hfz9_1
    try clear hfz9_2
    obtain ⟨kq, x27_2, rfl, HA, HJ2, BK184, BK185, HB⟩ := hcut
    cases kq with
    | zero => exact absurd HA.out (by simp [colloquyref20_Same.j0])
    | succ kj2 =>
      have H := HA.out
      clear HA
      simp only [colloquyref20_Same.j0] at H
      by_cases c17 : x27_2 = true
      · subst c17
        have H1 : (some false) = some r := by rw [if_pos rfl] at H; exact H
        clear H
        have H := H1
        clear H1
        obtain rfl := Option.some.inj H
        go_wp2
        repeat (go_quiet (fail); try go_wp2)
        go_ret
        exact ⟨by first | rfl | (simp [errW_none, errW_some] <;> rfl) | (simp [*, errW_none, errW_some] <;> rfl), by repeat (first | (with_reducible first | exact HB.out | apply below_alloc | apply pw_below_drewN | apply below_drew1 | refine below_set ?_ GE184.out | refine below_set ?_ GE185.out) | exact HB.out)⟩
      · replace c17 := Bool.eq_false_iff.mpr c17
        subst c17
        have H1 : (colloquyref20_Same.l0 kj2 0 a0_0 a0_1 l0_2 a1_0 a1_1 l1_2) = some r := by rw [if_neg (show ¬ (false = true) by decide)] at H; exact H
        clear H
        have H := H1
        clear H1
        have H' := Aside0.mk H
        clear H
        go_wp2
        repeat (go_quiet (fail); try go_wp2)
        go_loopg [5] kj2 (fun kq v5 w' => ∃ (x5_2 : Int), v5 = .int .i64 x5_2 ∧ Aside0 (colloquyref20_Same.l0 kq x5_2 a0_0 a0_1 l0_2 a1_0 a1_1 l1_2 = some r) ∧ Aside0 (kq ≤ kj2) ∧ Aside0 (w'.heap[gb184]? = some (.cells #[.string a0_0, .string a0_1, (.slice A0_2 l0_2.length c0_2)] 29 (0, 0))) ∧ Aside0 (w'.heap[gb185]? = some (.cells #[.string a1_0, .string a1_1, (.slice A1_2 l1_2.length c1_2)] 29 (0, 0))) ∧ Aside0 (Below w.heap.size w w'))
        case atStart => exact ⟨(0), (by first | rfl | (simp; done) | (simp [*]; done)), H', ⟨Nat.le_refl _⟩, ⟨by (with_reducible repeat (first | refine blk_drewN ?_ _ | refine blk_drew ?_ | refine blk_alloc ?_ _)); exact BK184.out⟩, ⟨by (with_reducible repeat (first | refine blk_drewN ?_ _ | refine blk_drew ?_ | refine blk_alloc ?_ _)); exact BK185.out⟩, ⟨by repeat (first | (with_reducible first | exact HB.out | apply below_alloc | apply pw_below_drewN | apply below_drew1 | refine below_set ?_ GE184.out | refine below_set ?_ GE185.out) | exact HB.out)⟩⟩
        case round =>
          clear H'
          try clear c1
          try clear c2
          try clear p2
          try clear c6
          try clear c6b0
          try clear c6b1
          try clear c7
          try clear c7b0
          try clear c7b1
          try clear c8
          try clear c11
          try clear c14
          try clear c17
          try clear hcz10_0
          try clear hcz10_1
          try clear hcz10_2
          try clear hcz12_0
          try clear hcz12_1
          try clear hcz12_2
          try clear hcz13_0
          try clear hcz13_1
          try clear hcz13_2
          try clear hcz15_0
          try clear hcz15_1
          try clear hcz15_2
          try clear hcz16_0
          try clear hcz16_1
          try clear hcz16_2
          try clear hcz9_0
          try clear hcz9_1
          try clear hcz9_2
          try clear hfz10_0
          try clear hfz10_1
          try clear hfz10_2
          try clear hfz12_0
          try clear hfz12_1
          try clear hfz12_2
          try clear hfz13_0
          try clear hfz13_1
          try clear hfz13_2
          try clear hfz15_0
          try clear hfz15_1
          try clear hfz15_2
          try clear hfz16_0
          try clear hfz16_1
          try clear hfz16_2
          try clear hfz9_0
          try clear hfz9_1
          try clear hfz9_2
          try clear p2
          obtain ⟨x5_2, rfl, HA, HK2, BK184, BK185, HB⟩ := hrel
          cases gk with
          | zero => exact absurd HA.out (by simp [colloquyref20_Same.l0])
          | succ k2 =>
            have H := HA.out
            clear HA
            simp only [colloquyref20_Same.l0] at H
            by_cases c18 : x5_2 < (l0_2.length : Int)
            · rw [if_pos c18] at H
              have c18b0 : decide (x5_2 < (l0_2.length : Int)) = true := decide_eq_true c18
              clear c18
              have HC19 := Aside0.mk H
              clear H
              have hnb20 := NB184_185.out
              have hnc20 := NB185_184.out
              have hcz21_0 : wr.cell? ⟨gb184, 0, none⟩ = some (.string a0_0) := (blk_cell BK184.out 0).trans rfl
              have hcz21_1 : wr.cell? ⟨gb184, 1, none⟩ = some (.string a0_1) := (blk_cell BK184.out 1).trans rfl
              have hcz21_2 : wr.cell? ⟨gb184, 2, none⟩ = some (.slice A0_2 l0_2.length c0_2) := (blk_cell BK184.out 2).trans rfl
              have hfz21_0 := blk_frozen BK184.out 0
              have hfz21_1 := blk_frozen BK184.out 1
              have hfz21_2 := blk_frozen BK184.out 2
              go_upto_region 6 with (fail)
              repeat (go_quiet (fail); go_upto_region 6 with (fail))
              go_cut [64] (fun v64 wc => ∃ (kq : Nat) (x64_18 : Bool), v64 = .bool x64_18 ∧ Aside0 (colloquyref20_Same.j2 kq x5_2 x64_18 a0_0 a0_1 l0_2 a1_0 a1_1 l1_2 = some r) ∧ Aside0 (kq ≤ k2) ∧ Aside0 (wc.heap[gb184]? = some (.cells #[.string a0_0, .string a0_1, (.slice A0_2 l0_2.length c0_2)] 29 (0, 0))) ∧ Aside0 (wc.heap[gb185]? = some (.cells #[.string a1_0, .string a1_1, (.slice A1_2 l1_2.length c1_2)] 29 (0, 0))) ∧ Aside0 (Below w.heap.size w wc))
              case first =>
                have H := HC19.out
                clear HC19
                by_cases c22 : 0 ≤ x5_2
                · rw [if_pos c22] at H
                  have c22b0 : decide (0 ≤ x5_2) = true := decide_eq_true c22
                  clear c22
                  (first | rw [c22b0] | rw [c22b1] | (simp only [i64_w, i32_w]; rw [c22b0]) | skip)
                  by_cases c23 : x5_2 < (l1_2.length : Int)
                  · rw [if_pos c23] at H
                    have c23b0 : decide (x5_2 < (l1_2.length : Int)) = true := decide_eq_true c23
                    clear c23
                    by_cases c24 : ((rd_T53 l0_2 x5_2).f0).toList = ((rd_T53 l1_2 x5_2).f0).toList
                    · rw [if_pos c24] at H
                      have c24b0 : (((rd_T53 l0_2 x5_2).f0).toList == ((rd_T53 l1_2 x5_2).f0).toList) = true := beq_iff_eq.mpr c24
                      have c24b1 : (((rd_T53 l0_2 x5_2).f0).toList != ((rd_T53 l1_2 x5_2).f0).toList) = false := bne_eq_false_iff_eq.mpr c24
                      clear c24
                      have H' := Aside0.mk H
                      clear H
                      have hnb25 := NB184_185.out
                      have hnc25 := NB185_184.out
                      have hcz26_0 : wr.cell? ⟨gb184, 0, none⟩ = some (.string a0_0) := (blk_cell BK184.out 0).trans rfl
                      have hcz26_1 : wr.cell? ⟨gb184, 1, none⟩ = some (.string a0_1) := (blk_cell BK184.out 1).trans rfl
                      have hcz26_2 : wr.cell? ⟨gb184, 2, none⟩ = some (.slice A0_2 l0_2.length c0_2) := (blk_cell BK184.out 2).trans rfl
                      have hfz26_0 := blk_frozen BK184.out 0
                      have hfz26_1 := blk_frozen BK184.out 1
                      have hfz26_2 := blk_frozen BK184.out 2
                      have p186 : 0 ≤ (x5_2 : Int) := of_decide_eq_true (by first | (with_reducible assumption) | assumption)
                      have q186 : x5_2 < (l0_2.length : Int) := of_decide_eq_true (by first | (with_reducible assumption) | assumption)
                      obtain ⟨ad186, A186_1, c186_1, e186, hx186_0, hx186_1, hl186_1, hi186_1⟩ := at_T53 HR0_2.out x5_2 p186 q186
                      cases e186
                      replace hx186_0 := (HB.out.cell (World.block_lt_of_cell? w _ hx186_0)).trans hx186_0
                      replace hx186_1 := (HB.out.cell (World.block_lt_of_cell? w _ hx186_1)).trans hx186_1
                      have HR186_1 := Aside0.mk hi186_1
                      have HC186_1 := Aside0.mk hl186_1
                      clear hi186_1 hl186_1
                      replace p186 := eq_true p186
                      replace q186 := eq_true q186
                      have hcz27_0 : wr.cell? ⟨gb185, 0, none⟩ = some (.string a1_0) := (blk_cell BK185.out 0).trans rfl
                      have hcz27_1 : wr.cell? ⟨gb185, 1, none⟩ = some (.string a1_1) := (blk_cell BK185.out 1).trans rfl
                      have hcz27_2 : wr.cell? ⟨gb185, 2, none⟩ = some (.slice A1_2 l1_2.length c1_2) := (blk_cell BK185.out 2).trans rfl
                      have hfz27_0 := blk_frozen BK185.out 0
                      have hfz27_1 := blk_frozen BK185.out 1
                      have hfz27_2 := blk_frozen BK185.out 2
                      have p187 : 0 ≤ (x5_2 : Int) := of_decide_eq_true (by first | (with_reducible assumption) | assumption)
                      have q187 : x5_2 < (l1_2.length : Int) := of_decide_eq_true (by first | (with_reducible assumption) | assumption)
                      obtain ⟨ad187, A187_1, c187_1, e187, hx187_0, hx187_1, hl187_1, hi187_1⟩ := at_T53 HR1_2.out x5_2 p187 q187
                      cases e187
                      replace hx187_0 := (HB.out.cell (World.block_lt_of_cell? w _ hx187_0)).trans hx187_0
                      replace hx187_1 := (HB.out.cell (World.block_lt_of_cell? w _ hx187_1)).trans hx187_1
                      have HR187_1 := Aside0.mk hi187_1
                      have HC187_1 := Aside0.mk hl187_1
                      clear hi187_1 hl187_1
                      replace p187 := eq_true p187
                      replace q187 := eq_true q187
                      have p188 : 0 ≤ (x5_2 : Int) := of_decide_eq_true (by first | (with_reducible assumption) | assumption)
                      have q188 : x5_2 < (l0_2.length : Int) := of_decide_eq_true (by first | (with_reducible assumption) | assumption)
                      obtain ⟨ad188, A188_1, c188_1, e188, hx188_0, hx188_1, hl188_1, hi188_1⟩ := at_T53 HR0_2.out x5_2 p188 q188
                      obtain rfl : ad186 = ad188 := (by injection e188)
                      replace hx188_0 := (HB.out.cell (World.block_lt_of_cell? w _ hx188_0)).trans hx188_0
                      replace hx188_1 := (HB.out.cell (World.block_lt_of_cell? w _ hx188_1)).trans hx188_1
                      have HR188_1 := Aside0.mk hi188_1
                      have HC188_1 := Aside0.mk hl188_1
                      clear hi188_1 hl188_1
                      replace p188 := eq_true p188
                      replace q188 := eq_true q188
                      have ea_ := Option.some.inj (hx186_1.symm.trans hx188_1)
                      injection ea_ with ea_ en_ ec_
                      subst ea_
                      subst ec_
                      clear en_
                      have p189 : 0 ≤ (x5_2 : Int) := of_decide_eq_true (by first | (with_reducible assumption) | assumption)
                      have q189 : x5_2 < (l1_2.length : Int) := of_decide_eq_true (by first | (with_reducible assumption) | assumption)
                      obtain ⟨ad189, A189_1, c189_1, e189, hx189_0, hx189_1, hl189_1, hi189_1⟩ := at_T53 HR1_2.out x5_2 p189 q189
                      obtain rfl : ad187 = ad189 := (by injection e189)
                      replace hx189_0 := (HB.out.cell (World.block_lt_of_cell? w _ hx189_0)).trans hx189_0
                      replace hx189_1 := (HB.out.cell (World.block_lt_of_cell? w _ hx189_1)).trans hx189_1
                      have HR189_1 := Aside0.mk hi189_1
                      have HC189_1 := Aside0.mk hl189_1
                      clear hi189_1 hl189_1
                      replace p189 := eq_true p189
                      replace q189 := eq_true q189
                      have ea_ := Option.some.inj (hx187_1.symm.trans hx189_1)
                      injection ea_ with ea_ en_ ec_
                      subst ea_
                      subst ec_
                      clear en_
                      go_wp2
                      repeat (go_quiet (fail); try go_wp2)
                      go_meet
                      case rel => exact ⟨_, (((((rd_T53 l0_2 x5_2).f1).length : Int) != (((rd_T53 l1_2 x5_2).f1).length : Int))), (by first | rfl | (simp; done) | (simp [*]; done)), H', ⟨by have := HJ2.out; have := HK2.out; first | omega | exact Nat.le_refl _⟩, ⟨by (with_reducible repeat (first | refine blk_drewN ?_ _ | refine blk_drew ?_ | refine blk_alloc ?_ _)); exact BK184.out⟩, ⟨by (with_reducible repeat (first | refine blk_drewN ?_ _ | refine blk_drew ?_ | refine blk_alloc ?_ _)); exact BK185.out⟩, ⟨by repeat (first | (with_reducible first | exact HB.out | apply below_alloc | apply pw_below_drewN | apply below_drew1 | refine below_set ?_ GE184.out | refine below_set ?_ GE185.out) | exact HB.out)⟩⟩
                    · rw [if_neg c24] at H
                      have c24b0 : (((rd_T53 l0_2 x5_2).f0).toList == ((rd_T53 l1_2 x5_2).f0).toList) = false := beq_eq_false_iff_ne.mpr c24
                      have c24b1 : (((rd_T53 l0_2 x5_2).f0).toList != ((rd_T53 l1_2 x5_2).f0).toList) = true := bne_iff_ne.mpr c24
                      have H' := Aside0.mk H
                      clear H
                      have hnb28 := NB184_185.out
                      have hnc28 := NB185_184.out
                      have hcz29_0 : wr.cell? ⟨gb184, 0, none⟩ = some (.string a0_0) := (blk_cell BK184.out 0).trans rfl
                      have hcz29_1 : wr.cell? ⟨gb184, 1, none⟩ = some (.string a0_1) := (blk_cell BK184.out 1).trans rfl
                      have hcz29_2 : wr.cell? ⟨gb184, 2, none⟩ = some (.slice A0_2 l0_2.length c0_2) := (blk_cell BK184.out 2).trans rfl
                      have hfz29_0 := blk_frozen BK184.out 0
                      have hfz29_1 := blk_frozen BK184.out 1
                      have hfz29_2 := blk_frozen BK184.out 2
                      have p186 : 0 ≤ (x5_2 : Int) := of_decide_eq_true (by first | (with_reducible assumption) | assumption)
                      have q186 : x5_2 < (l0_2.length : Int) := of_decide_eq_true (by first | (with_reducible assumption) | assumption)
                      obtain ⟨ad186, A186_1, c186_1, e186, hx186_0, hx186_1, hl186_1, hi186_1⟩ := at_T53 HR0_2.out x5_2 p186 q186
                      cases e186
                      replace hx186_0 := (HB.out.cell (World.block_lt_of_cell? w _ hx186_0)).trans hx186_0
                      replace hx186_1 := (HB.out.cell (World.block_lt_of_cell? w _ hx186_1)).trans hx186_1
                      have HR186_1 := Aside0.mk hi186_1
                      have HC186_1 := Aside0.mk hl186_1
                      clear hi186_1 hl186_1
                      replace p186 := eq_true p186
                      replace q186 := eq_true q186
                      have hcz30_0 : wr.cell? ⟨gb185, 0, none⟩ = some (.string a1_0) := (blk_cell BK185.out 0).trans rfl
                      have hcz30_1 : wr.cell? ⟨gb185, 1, none⟩ = some (.string a1_1) := (blk_cell BK185.out 1).trans rfl
                      have hcz30_2 : wr.cell? ⟨gb185, 2, none⟩ = some (.slice A1_2 l1_2.length c1_2) := (blk_cell BK185.out 2).trans rfl
                      have hfz30_0 := blk_frozen BK185.out 0
                      have hfz30_1 := blk_frozen BK185.out 1
                      have hfz30_2 := blk_frozen BK185.out 2
                      have p187 : 0 ≤ (x5_2 : Int) := of_decide_eq_true (by first | (with_reducible assumption) | assumption)
                      have q187 : x5_2 < (l1_2.length : Int) := of_decide_eq_true (by first | (with_reducible assumption) | assumption)
                      obtain ⟨ad187, A187_1, c187_1, e187, hx187_0, hx187_1, hl187_1, hi187_1⟩ := at_T53 HR1_2.out x5_2 p187 q187
                      cases e187
                      replace hx187_0 := (HB.out.cell (World.block_lt_of_cell? w _ hx187_0)).trans hx187_0
                      replace hx187_1 := (HB.out.cell (World.block_lt_of_cell? w _ hx187_1)).trans hx187_1
                      have HR187_1 := Aside0.mk hi187_1
                      have HC187_1 := Aside0.mk hl187_1
                      clear hi187_1 hl187_1
                      replace p187 := eq_true p187
                      replace q187 := eq_true q187
                      go_wp2
                      repeat (go_quiet (fail); try go_wp2)
                      go_meet
                      case rel => exact ⟨_, (true), (by first | rfl | (simp; done) | (simp [*]; done)), H', ⟨by have := HJ2.out; have := HK2.out; first | omega | exact Nat.le_refl _⟩, ⟨by (with_reducible repeat (first | refine blk_drewN ?_ _ | refine blk_drew ?_ | refine blk_alloc ?_ _)); exact BK184.out⟩, ⟨by (with_reducible repeat (first | refine blk_drewN ?_ _ | refine blk_drew ?_ | refine blk_alloc ?_ _)); exact BK185.out⟩, ⟨by repeat (first | (with_reducible first | exact HB.out | apply below_alloc | apply pw_below_drewN | apply below_drew1 | refine below_set ?_ GE184.out | refine below_set ?_ GE185.out) | exact HB.out)⟩⟩
                  · rw [if_neg c23] at H
                    exact absurd H (by simp)
                · rw [if_neg c22] at H
                  exact absurd H (by simp)
              case rest =>
                clear HC19
                try clear c1
                try clear p1
                try clear q1
                try clear hx1
                try clear c2
                try clear p2
                try clear c6
                try clear c6b0
                try clear c6b1
                try clear c7
                try clear c7b0
                try clear c7b1
                try clear c8
                try clear c11
                try clear c14
                try clear c17
                try clear c18
                try clear c18b0
                try clear p18
                try clear q18
                try clear hx18
                try clear c20
                try clear c22
                try clear c22b0
                try clear c22b1
                try clear c23
                try clear c23b0
                try clear c24
                try clear c24b0
                try clear c24b1
                try clear c25
                try clear c28
                try clear hcz10_0
                try clear hcz10_1
                try clear hcz10_2
                try clear hcz12_0
                try clear hcz12_1
                try clear hcz12_2
                try clear hcz13_0
                try clear hcz13_1
                try clear hcz13_2
                try clear hcz15_0
                try clear hcz15_1
                try clear hcz15_2
                try clear hcz16_0
                try clear hcz16_1
                try clear hcz16_2
                try clear hcz21_0
                try clear hcz21_1
                try clear hcz21_2
                try clear hcz26_0
                try clear hcz26_1
                try clear hcz26_2
                try clear hcz27_0
                try clear hcz27_1
                try clear hcz27_2
                try clear hcz29_0
                try clear hcz29_1
                try clear hcz29_2
                try clear hcz30_0
                try clear hcz30_1
                try clear hcz30_2
                try clear hcz9_0
                try clear hcz9_1
                try clear hcz9_2
                try clear hfz10_0
                try clear hfz10_1
                try clear hfz10_2
                try clear hfz12_0
                try clear hfz12_1
                try clear hfz12_2
                try clear hfz13_0
                try clear hfz13_1
                try clear hfz13_2
                try clear hfz15_0
                try clear hfz15_1
                try clear hfz15_2
                try clear hfz16_0
                try clear hfz16_1
                try clear hfz16_2
                try clear hfz21_0
                try clear hfz21_1
                try clear hfz21_2
                try clear hfz26_0
                try clear hfz26_1
                try clear hfz26_2
                try clear hfz27_0
                try clear hfz27_1
                try clear hfz27_2
                try clear hfz29_0
                try clear hfz29_1
                try clear hfz29_2
                try clear hfz30_0
                try clear hfz30_1
                try clear hfz30_2
                try clear hfz9_0
                try clear hfz9_1
                try clear hfz9_2
                try clear hx186_0
                try clear hx186_1
                try clear hx187_0
                try clear hx187_1
                try clear hx188_0
                try clear hx188_1
                try clear hx189_0
                try clear hx189_1
                try clear p186
                try clear p187
                try clear p188
                try clear p189
                try clear p2
                try clear q186
                try clear q187
                try clear q188
                try clear q189
                obtain ⟨kq, x64_18, rfl, HA, HJ18, BK184, BK185, HB⟩ := hcut
                cases kq with
                | zero => exact absurd HA.out (by simp [colloquyref20_Same.j2])
                | succ kj18 =>
                  have H := HA.out
                  clear HA
                  simp only [colloquyref20_Same.j2] at H
                  by_cases c31 : x64_18 = true
                  · subst c31
                    have H1 : (some false) = some r := by rw [if_pos rfl] at H; exact H
                    clear H
                    have H := H1
                    clear H1
                    obtain rfl := Option.some.inj H
                    go_wp2
                    repeat (go_quiet (fail); try go_wp2)
                    go_ret
                    exact ⟨by first | rfl | (simp [errW_none, errW_some] <;> rfl) | (simp [*, errW_none, errW_some] <;> rfl), by repeat (first | (with_reducible first | exact HB.out | apply below_alloc | apply pw_below_drewN | apply below_drew1 | refine below_set ?_ GE184.out | refine below_set ?_ GE185.out) | exact HB.out)⟩
                  · replace c31 := Bool.eq_false_iff.mpr c31
                    subst c31
                    have H1 : (colloquyref20_Same.l1 kj18 x5_2 0 a0_0 a0_1 l0_2 a1_0 a1_1 l1_2) = some r := by rw [if_neg (show ¬ (false = true) by decide)] at H; exact H
                    clear H
                    have H := H1
                    clear H1
                    have H' := Aside0.mk H
                    clear H
                    go_wp2
                    repeat (go_quiet (fail); try go_wp2)
                    go_loopg [6] kj18 (fun kq v6 w' => ∃ (x6_4 : Int), v6 = .int .i64 x6_4 ∧ Aside0 (colloquyref20_Same.l1 kq x5_2 x6_4 a0_0 a0_1 l0_2 a1_0 a1_1 l1_2 = some r) ∧ Aside0 (kq ≤ kj18) ∧ Aside0 (w'.heap[gb184]? = some (.cells #[.string a0_0, .string a0_1, (.slice A0_2 l0_2.length c0_2)] 29 (0, 0))) ∧ Aside0 (w'.heap[gb185]? = some (.cells #[.string a1_0, .string a1_1, (.slice A1_2 l1_2.length c1_2)] 29 (0, 0))) ∧ Aside0 (Below w.heap.size w w'))
                    case atStart => exact ⟨(0), (by first | rfl | (simp; done) | (simp [*]; done)), H', ⟨Nat.le_refl _⟩, ⟨by (with_reducible repeat (first | refine blk_drewN ?_ _ | refine blk_drew ?_ | refine blk_alloc ?_ _)); exact BK184.out⟩, ⟨by (with_reducible repeat (first | refine blk_drewN ?_ _ | refine blk_drew ?_ | refine blk_alloc ?_ _)); exact BK185.out⟩, ⟨by repeat (first | (with_reducible first | exact HB.out | apply below_alloc | apply pw_below_drewN | apply below_drew1 | refine below_set ?_ GE184.out | refine below_set ?_ GE185.out) | exact HB.out)⟩⟩
                    case round =>
                      clear H'
                      try clear c1
                      try clear p1
                      try clear q1
                      try clear hx1
                      try clear c2
                      try clear p2
                      try clear c3
                      try clear c6
                      try clear c6b0
                      try clear c6b1
                      try clear c7
                      try clear c7b0
                      try clear c7b1
                      try clear c8
                      try clear c11
                      try clear c14
                      try clear c17
                      try clear c18
                      try clear c18b0
                      try clear p18
                      try clear q18
                      try clear hx18
                      try clear c20
                      try clear c22
                      try clear c22b0
                      try clear c22b1
                      try clear c23
                      try clear c23b0
                      try clear c24
                      try clear c24b0
                      try clear c24b1
                      try clear c25
                      try clear c28
                      try clear c31
                      try clear hcz10_0
                      try clear hcz10_1
                      try clear hcz10_2
                      try clear hcz12_0
                      try clear hcz12_1
                      try clear hcz12_2
                      try clear hcz13_0
                      try clear hcz13_1
                      try clear hcz13_2
                      try clear hcz15_0
                      try clear hcz15_1
                      try clear hcz15_2
                      try clear hcz16_0
                      try clear hcz16_1
                      try clear hcz16_2
                      try clear hcz21_0
                      try clear hcz21_1
                      try clear hcz21_2
                      try clear hcz26_0
                      try clear hcz26_1
                      try clear hcz26_2
                      try clear hcz27_0
                      try clear hcz27_1
                      try clear hcz27_2
                      try clear hcz29_0
                      try clear hcz29_1
                      try clear hcz29_2
                      try clear hcz30_0
                      try clear hcz30_1
                      try clear hcz30_2
                      try clear hcz9_0
                      try clear hcz9_1
                      try clear hcz9_2
                      try clear hfz10_0
                      try clear hfz10_1
                      try clear hfz10_2
                      try clear hfz12_0
                      try clear hfz12_1
                      try clear hfz12_2
                      try clear hfz13_0
                      try clear hfz13_1
                      try clear hfz13_2
                      try clear hfz15_0
                      try clear hfz15_1
                      try clear hfz15_2
                      try clear hfz16_0
                      try clear hfz16_1
                      try clear hfz16_2
                      try clear hfz21_0
                      try clear hfz21_1
                      try clear hfz21_2
                      try clear hfz26_0
                      try clear hfz26_1
                      try clear hfz26_2
                      try clear hfz27_0
                      try clear hfz27_1
                      try clear hfz27_2
                      try clear hfz29_0
                      try clear hfz29_1
                      try clear hfz29_2
                      try clear hfz30_0
                      try clear hfz30_1
                      try clear hfz30_2
                      try clear hfz9_0
                      try clear hfz9_1
                      try clear hfz9_2
                      try clear hx186_0
                      try clear hx186_1
                      try clear hx187_0
                      try clear hx187_1
                      try clear hx188_0
                      try clear hx188_1
                      try clear hx189_0
                      try clear hx189_1
                      try clear p1
                      try clear p18
                      try clear p186
                      try clear p187
                      try clear p188
                      try clear p189
                      try clear p2
                      try clear q1
                      try clear q18
                      try clear q186
                      try clear q187
                      try clear q188
                      try clear q189
                      obtain ⟨x6_4, rfl, HA, HK4, BK184, BK185, HB⟩ := hrel
                      cases gk with
                      | zero => exact absurd HA.out (by simp [colloquyref20_Same.l1])
                      | succ k4 =>
                        have H := HA.out
                        clear HA
                        simp only [colloquyref20_Same.l1] at H
                        by_cases c32 : 0 ≤ x5_2
                        · rw [if_pos c32] at H
                          have c32b0 : decide (0 ≤ x5_2) = true := decide_eq_true c32
                          clear c32
                          by_cases c33 : x5_2 < (l0_2.length : Int)
                          · rw [if_pos c33] at H
                            have c33b0 : decide (x5_2 < (l0_2.length : Int)) = true := decide_eq_true c33
                            clear c33
                            by_cases c34 : x6_4 < (((rd_T53 l0_2 x5_2).f1).length : Int)
                            · rw [if_pos c34] at H
                              have c34b0 : decide (x6_4 < (((rd_T53 l0_2 x5_2).f1).length : Int)) = true := decide_eq_true c34
                              clear c34
                              by_cases c35 : 0 ≤ x6_4
                              · rw [if_pos c35] at H
                                have c35b0 : decide (0 ≤ x6_4) = true := decide_eq_true c35
                                clear c35
                                by_cases c36 : x5_2 < (l1_2.length : Int)
                                · rw [if_pos c36] at H
                                  have c36b0 : decide (x5_2 < (l1_2.length : Int)) = true := decide_eq_true c36
                                  clear c36
                                  by_cases c37 : x6_4 < (((rd_T53 l1_2 x5_2).f1).length : Int)
                                  · rw [if_pos c37] at H
                                    have c37b0 : decide (x6_4 < (((rd_T53 l1_2 x5_2).f1).length : Int)) = true := decide_eq_true c37
                                    clear c37
                                    by_cases c38 : (!((((rd_T49 ((rd_T53 l0_2 x5_2).f1) x6_4).f0).toList) == (((rd_T49 ((rd_T53 l1_2 x5_2).f1) x6_4).f0).toList)) || (!(((rd_T49 ((rd_T53 l0_2 x5_2).f1) x6_4).f1) == ((rd_T49 ((rd_T53 l1_2 x5_2).f1) x6_4).f1)))) = true
                                    · rw [if_pos c38] at H
                                      have c38b0 : (!((((rd_T49 ((rd_T53 l0_2 x5_2).f1) x6_4).f0).toList) == (((rd_T49 ((rd_T53 l1_2 x5_2).f1) x6_4).f0).toList)) || (!(((rd_T49 ((rd_T53 l0_2 x5_2).f1) x6_4).f1) == ((rd_T49 ((rd_T53 l1_2 x5_2).f1) x6_4).f1)))) = true := c38
                                      clear c38
                                      obtain rfl := Option.some.inj H
                                      have hnb39 := NB184_185.out
                                      have hnc39 := NB185_184.out
                                      have hcz40_0 : wr.cell? ⟨gb184, 0, none⟩ = some (.string a0_0) := (blk_cell BK184.out 0).trans rfl
                                      have hcz40_1 : wr.cell? ⟨gb184, 1, none⟩ = some (.string a0_1) := (blk_cell BK184.out 1).trans rfl
                                      have hcz40_2 : wr.cell? ⟨gb184, 2, none⟩ = some (.slice A0_2 l0_2.length c0_2) := (blk_cell BK184.out 2).trans rfl
                                      have hfz40_0 := blk_frozen BK184.out 0
                                      have hfz40_1 := blk_frozen BK184.out 1
                                      have hfz40_2 := blk_frozen BK184.out 2
                                      have p190 : 0 ≤ (x5_2 : Int) := of_decide_eq_true (by first | (with_reducible assumption) | assumption)
                                      have q190 : x5_2 < (l0_2.length : Int) := of_decide_eq_true (by first | (with_reducible assumption) | assumption)
                                      obtain ⟨ad190, A190_1, c190_1, e190, hx190_0, hx190_1, hl190_1, hi190_1⟩ := at_T53 HR0_2.out x5_2 p190 q190
                                      cases e190
                                      replace hx190_0 := (HB.out.cell (World.block_lt_of_cell? w _ hx190_0)).trans hx190_0
                                      replace hx190_1 := (HB.out.cell (World.block_lt_of_cell? w _ hx190_1)).trans hx190_1
                                      have HR190_1 := Aside0.mk hi190_1
                                      have HC190_1 := Aside0.mk hl190_1
                                      clear hi190_1 hl190_1
                                      replace p190 := eq_true p190
                                      replace q190 := eq_true q190
                                      have p191 : 0 ≤ (x5_2 : Int) := of_decide_eq_true (by first | (with_reducible assumption) | assumption)
                                      have q191 : x5_2 < (l0_2.length : Int) := of_decide_eq_true (by first | (with_reducible assumption) | assumption)
                                      obtain ⟨ad191, A191_1, c191_1, e191, hx191_0, hx191_1, hl191_1, hi191_1⟩ := at_T53 HR0_2.out x5_2 p191 q191
                                      obtain rfl : ad190 = ad191 := (by injection e191)
                                      replace hx191_0 := (HB.out.cell (World.block_lt_of_cell? w _ hx191_0)).trans hx191_0
                                      replace hx191_1 := (HB.out.cell (World.block_lt_of_cell? w _ hx191_1)).trans hx191_1
                                      have HR191_1 := Aside0.mk hi191_1
                                      have HC191_1 := Aside0.mk hl191_1
                                      clear hi191_1 hl191_1
                                      replace p191 := eq_true p191
                                      replace q191 := eq_true q191
                                      have ea_ := Option.some.inj (hx190_1.symm.trans hx191_1)
                                      injection ea_ with ea_ en_ ec_
                                      subst ea_
                                      subst ec_
                                      clear en_
                                      have p192 : 0 ≤ (x6_4 : Int) := of_decide_eq_true (by first | (with_reducible assumption) | assumption)
                                      have q192 : x6_4 < (((rd_T53 l0_2 x5_2).f1).length : Int) := of_decide_eq_true (by first | (with_reducible assumption) | assumption)
                                      obtain ⟨ad192, e192, hx192_0, hx192_1⟩ := at_T49 HR191_1.out x6_4 p192 q192
                                      cases e192
                                      replace hx192_0 := (HB.out.cell (World.block_lt_of_cell? w _ hx192_0)).trans hx192_0
                                      replace hx192_1 := (HB.out.cell (World.block_lt_of_cell? w _ hx192_1)).trans hx192_1
                                      replace p192 := eq_true p192
                                      replace q192 := eq_true q192
                                      have hcz41_0 : wr.cell? ⟨gb185, 0, none⟩ = some (.string a1_0) := (blk_cell BK185.out 0).trans rfl
                                      have hcz41_1 : wr.cell? ⟨gb185, 1, none⟩ = some (.string a1_1) := (blk_cell BK185.out 1).trans rfl
                                      have hcz41_2 : wr.cell? ⟨gb185, 2, none⟩ = some (.slice A1_2 l1_2.length c1_2) := (blk_cell BK185.out 2).trans rfl
                                      have hfz41_0 := blk_frozen BK185.out 0
                                      have hfz41_1 := blk_frozen BK185.out 1
                                      have hfz41_2 := blk_frozen BK185.out 2
                                      have p193 : 0 ≤ (x5_2 : Int) := of_decide_eq_true (by first | (with_reducible assumption) | assumption)
                                      have q193 : x5_2 < (l1_2.length : Int) := of_decide_eq_true (by first | (with_reducible assumption) | assumption)
                                      obtain ⟨ad193, A193_1, c193_1, e193, hx193_0, hx193_1, hl193_1, hi193_1⟩ := at_T53 HR1_2.out x5_2 p193 q193
                                      cases e193
                                      replace hx193_0 := (HB.out.cell (World.block_lt_of_cell? w _ hx193_0)).trans hx193_0
                                      replace hx193_1 := (HB.out.cell (World.block_lt_of_cell? w _ hx193_1)).trans hx193_1
                                      have HR193_1 := Aside0.mk hi193_1
                                      have HC193_1 := Aside0.mk hl193_1
                                      clear hi193_1 hl193_1
                                      replace p193 := eq_true p193
                                      replace q193 := eq_true q193
                                      have p194 : 0 ≤ (x6_4 : Int) := of_decide_eq_true (by first | (with_reducible assumption) | assumption)
                                      have q194 : x6_4 < (((rd_T53 l1_2 x5_2).f1).length : Int) := of_decide_eq_true (by first | (with_reducible assumption) | assumption)
                                      obtain ⟨ad194, e194, hx194_0, hx194_1⟩ := at_T49 HR193_1.out x6_4 p194 q194
                                      cases e194
                                      replace hx194_0 := (HB.out.cell (World.block_lt_of_cell? w _ hx194_0)).trans hx194_0
                                      replace hx194_1 := (HB.out.cell (World.block_lt_of_cell? w _ hx194_1)).trans hx194_1
                                      replace p194 := eq_true p194
                                      replace q194 := eq_true q194
                                      go_wp2
                                      repeat (go_quiet (fail); try go_wp2)
                                      go_ret
                                      exact ⟨by first | rfl | (simp [errW_none, errW_some] <;> rfl) | (simp [*, errW_none, errW_some] <;> rfl), by repeat (first | (with_reducible first | exact HB.out | apply below_alloc | apply pw_below_drewN | apply below_drew1 | refine below_set ?_ GE184.out | refine below_set ?_ GE185.out) | exact HB.out)⟩
                                    · rw [if_neg c38] at H
                                      have c38b0 : (!((((rd_T49 ((rd_T53 l0_2 x5_2).f1) x6_4).f0).toList) == (((rd_T49 ((rd_T53 l1_2 x5_2).f1) x6_4).f0).toList)) || (!(((rd_T49 ((rd_T53 l0_2 x5_2).f1) x6_4).f1) == ((rd_T49 ((rd_T53 l1_2 x5_2).f1) x6_4).f1)))) = false := by simpa using c38
                                      clear c38
                                      have H' := Aside0.mk H
                                      clear H
                                      have hnb42 := NB184_185.out
                                      have hnc42 := NB185_184.out
                                      have hcz43_0 : wr.cell? ⟨gb184, 0, none⟩ = some (.string a0_0) := (blk_cell BK184.out 0).trans rfl
                                      have hcz43_1 : wr.cell? ⟨gb184, 1, none⟩ = some (.string a0_1) := (blk_cell BK184.out 1).trans rfl
                                      have hcz43_2 : wr.cell? ⟨gb184, 2, none⟩ = some (.slice A0_2 l0_2.length c0_2) := (blk_cell BK184.out 2).trans rfl
                                      have hfz43_0 := blk_frozen BK184.out 0
                                      have hfz43_1 := blk_frozen BK184.out 1
                                      have hfz43_2 := blk_frozen BK184.out 2
                                      have p190 : 0 ≤ (x5_2 : Int) := of_decide_eq_true (by first | (with_reducible assumption) | assumption)
                                      have q190 : x5_2 < (l0_2.length : Int) := of_decide_eq_true (by first | (with_reducible assumption) | assumption)
                                      obtain ⟨ad190, A190_1, c190_1, e190, hx190_0, hx190_1, hl190_1, hi190_1⟩ := at_T53 HR0_2.out x5_2 p190 q190
                                      cases e190
                                      replace hx190_0 := (HB.out.cell (World.block_lt_of_cell? w _ hx190_0)).trans hx190_0
                                      replace hx190_1 := (HB.out.cell (World.block_lt_of_cell? w _ hx190_1)).trans hx190_1
                                      have HR190_1 := Aside0.mk hi190_1
                                      have HC190_1 := Aside0.mk hl190_1
                                      clear hi190_1 hl190_1
                                      replace p190 := eq_true p190
                                      replace q190 := eq_true q190
                                      have p191 : 0 ≤ (x5_2 : Int) := of_decide_eq_true (by first | (with_reducible assumption) | assumption)
                                      have q191 : x5_2 < (l0_2.length : Int) := of_decide_eq_true (by first | (with_reducible assumption) | assumption)
                                      obtain ⟨ad191, A191_1, c191_1, e191, hx191_0, hx191_1, hl191_1, hi191_1⟩ := at_T53 HR0_2.out x5_2 p191 q191
                                      obtain rfl : ad190 = ad191 := (by injection e191)
                                      replace hx191_0 := (HB.out.cell (World.block_lt_of_cell? w _ hx191_0)).trans hx191_0
                                      replace hx191_1 := (HB.out.cell (World.block_lt_of_cell? w _ hx191_1)).trans hx191_1
                                      have HR191_1 := Aside0.mk hi191_1
                                      have HC191_1 := Aside0.mk hl191_1
                                      clear hi191_1 hl191_1
                                      replace p191 := eq_true p191
                                      replace q191 := eq_true q191
                                      have ea_ := Option.some.inj (hx190_1.symm.trans hx191_1)
                                      injection ea_ with ea_ en_ ec_
                                      subst ea_
                                      subst ec_
                                      clear en_
                                      have p192 : 0 ≤ (x6_4 : Int) := of_decide_eq_true (by first | (with_reducible assumption) | assumption)
                                      have q192 : x6_4 < (((rd_T53 l0_2 x5_2).f1).length : Int) := of_decide_eq_true (by first | (with_reducible assumption) | assumption)
                                      obtain ⟨ad192, e192, hx192_0, hx192_1⟩ := at_T49 HR191_1.out x6_4 p192 q192
                                      cases e192
                                      replace hx192_0 := (HB.out.cell (World.block_lt_of_cell? w _ hx192_0)).trans hx192_0
                                      replace hx192_1 := (HB.out.cell (World.block_lt_of_cell? w _ hx192_1)).trans hx192_1
                                      replace p192 := eq_true p192
                                      replace q192 := eq_true q192
                                      have hcz44_0 : wr.cell? ⟨gb185, 0, none⟩ = some (.string a1_0) := (blk_cell BK185.out 0).trans rfl
                                      have hcz44_1 : wr.cell? ⟨gb185, 1, none⟩ = some (.string a1_1) := (blk_cell BK185.out 1).trans rfl
                                      have hcz44_2 : wr.cell? ⟨gb185, 2, none⟩ = some (.slice A1_2 l1_2.length c1_2) := (blk_cell BK185.out 2).trans rfl
                                      have hfz44_0 := blk_frozen BK185.out 0
                                      have hfz44_1 := blk_frozen BK185.out 1
                                      have hfz44_2 := blk_frozen BK185.out 2
                                      have p193 : 0 ≤ (x5_2 : Int) := of_decide_eq_true (by first | (with_reducible assumption) | assumption)
                                      have q193 : x5_2 < (l1_2.length : Int) := of_decide_eq_true (by first | (with_reducible assumption) | assumption)
                                      obtain ⟨ad193, A193_1, c193_1, e193, hx193_0, hx193_1, hl193_1, hi193_1⟩ := at_T53 HR1_2.out x5_2 p193 q193
                                      cases e193
                                      replace hx193_0 := (HB.out.cell (World.block_lt_of_cell? w _ hx193_0)).trans hx193_0
                                      replace hx193_1 := (HB.out.cell (World.block_lt_of_cell? w _ hx193_1)).trans hx193_1
                                      have HR193_1 := Aside0.mk hi193_1
                                      have HC193_1 := Aside0.mk hl193_1
                                      clear hi193_1 hl193_1
                                      replace p193 := eq_true p193
                                      replace q193 := eq_true q193
                                      have p194 : 0 ≤ (x6_4 : Int) := of_decide_eq_true (by first | (with_reducible assumption) | assumption)
                                      have q194 : x6_4 < (((rd_T53 l1_2 x5_2).f1).length : Int) := of_decide_eq_true (by first | (with_reducible assumption) | assumption)
                                      obtain ⟨ad194, e194, hx194_0, hx194_1⟩ := at_T49 HR193_1.out x6_4 p194 q194
                                      cases e194
                                      replace hx194_0 := (HB.out.cell (World.block_lt_of_cell? w _ hx194_0)).trans hx194_0
                                      replace hx194_1 := (HB.out.cell (World.block_lt_of_cell? w _ hx194_1)).trans hx194_1
                                      replace p194 := eq_true p194
                                      replace q194 := eq_true q194
                                      go_wp2
                                      repeat (go_quiet (fail); try go_wp2)
                                      go_roundg k4
                                      case measure => have := HJ2.out; have := HK2.out; have := HJ18.out; have := HK4.out; omega
                                      case rel => exact ⟨(wrap64 (x6_4 + 1)), (by first | rfl | (simp; done) | (simp [*]; done)), H', ⟨by have := HJ2.out; have := HK2.out; have := HJ18.out; have := HK4.out; omega⟩, ⟨by (with_reducible repeat (first | refine blk_drewN ?_ _ | refine blk_drew ?_ | refine blk_alloc ?_ _)); exact BK184.out⟩, ⟨by (with_reducible repeat (first | refine blk_drewN ?_ _ | refine blk_drew ?_ | refine blk_alloc ?_ _)); exact BK185.out⟩, ⟨by repeat (first | (with_reducible first | exact HB.out | apply below_alloc | apply pw_below_drewN | apply below_drew1 | refine below_set ?_ GE184.out | refine below_set ?_ GE185.out) | exact HB.out)⟩⟩
                                  · rw [if_neg c37] at H
                                    exact absurd H (by simp)
                                · rw [if_neg c36] at H
                                  exact absurd H (by simp)
                              · rw [if_neg c35] at H
                                exact absurd H (by simp)
                            · rw [if_neg c34] at H
                              have c34b0 : decide (x6_4 < (((rd_T53 l0_2 x5_2).f1).length : Int)) = false := decide_eq_false c34
                              clear c34
                              have H' := Aside0.mk H
                              clear H
                              have hnb45 := NB184_185.out
                              have hnc45 := NB185_184.out
                              have hcz46_0 : wr.cell? ⟨gb184, 0, none⟩ = some (.string a0_0) := (blk_cell BK184.out 0).trans rfl
                              have hcz46_1 : wr.cell? ⟨gb184, 1, none⟩ = some (.string a0_1) := (blk_cell BK184.out 1).trans rfl
                              have hcz46_2 : wr.cell? ⟨gb184, 2, none⟩ = some (.slice A0_2 l0_2.length c0_2) := (blk_cell BK184.out 2).trans rfl
                              have hfz46_0 := blk_frozen BK184.out 0
                              have hfz46_1 := blk_frozen BK184.out 1
                              have hfz46_2 := blk_frozen BK184.out 2
                              have p190 : 0 ≤ (x5_2 : Int) := of_decide_eq_true (by first | (with_reducible assumption) | assumption)
                              have q190 : x5_2 < (l0_2.length : Int) := of_decide_eq_true (by first | (with_reducible assumption) | assumption)
                              obtain ⟨ad190, A190_1, c190_1, e190, hx190_0, hx190_1, hl190_1, hi190_1⟩ := at_T53 HR0_2.out x5_2 p190 q190
                              cases e190
                              replace hx190_0 := (HB.out.cell (World.block_lt_of_cell? w _ hx190_0)).trans hx190_0
                              replace hx190_1 := (HB.out.cell (World.block_lt_of_cell? w _ hx190_1)).trans hx190_1
                              have HR190_1 := Aside0.mk hi190_1
                              have HC190_1 := Aside0.mk hl190_1
                              clear hi190_1 hl190_1
                              replace p190 := eq_true p190
                              replace q190 := eq_true q190
                              go_wp2
                              repeat (go_quiet (fail); try go_wp2)
                              go_roundg k4
                              case measure => have := HJ2.out; have := HK2.out; have := HJ18.out; have := HK4.out; omega
                              case rel => exact ⟨(wrap64 (x5_2 + 1)), (by first | rfl | (simp; done) | (simp [*]; done)), H', ⟨by have := HJ2.out; have := HK2.out; have := HJ18.out; have := HK4.out; omega⟩, ⟨by (with_reducible repeat (first | refine blk_drewN ?_ _ | refine blk_drew ?_ | refine blk_alloc ?_ _)); exact BK184.out⟩, ⟨by (with_reducible repeat (first | refine blk_drewN ?_ _ | refine blk_drew ?_ | refine blk_alloc ?_ _)); exact BK185.out⟩, ⟨by repeat (first | (with_reducible first | exact HB.out | apply below_alloc | apply pw_below_drewN | apply below_drew1 | refine below_set ?_ GE184.out | refine below_set ?_ GE185.out) | exact HB.out)⟩⟩
                          · rw [if_neg c33] at H
                            exact absurd H (by simp)
                        · rw [if_neg c32] at H
                          exact absurd H (by simp)
            · rw [if_neg c18] at H
              have c18b0 : decide (x5_2 < (l0_2.length : Int)) = false := decide_eq_false c18
              clear c18
              obtain rfl := Option.some.inj H
              have hnb47 := NB184_185.out
              have hnc47 := NB185_184.out
              have hcz48_0 : wr.cell? ⟨gb184, 0, none⟩ = some (.string a0_0) := (blk_cell BK184.out 0).trans rfl
              have hcz48_1 : wr.cell? ⟨gb184, 1, none⟩ = some (.string a0_1) := (blk_cell BK184.out 1).trans rfl
              have hcz48_2 : wr.cell? ⟨gb184, 2, none⟩ = some (.slice A0_2 l0_2.length c0_2) := (blk_cell BK184.out 2).trans rfl
              have hfz48_0 := blk_frozen BK184.out 0
              have hfz48_1 := blk_frozen BK184.out 1
              have hfz48_2 := blk_frozen BK184.out 2
              go_wp2
              repeat (go_quiet (fail); try go_wp2)
              go_ret
              exact ⟨by first | rfl | (simp [errW_none, errW_some] <;> rfl) | (simp [*, errW_none, errW_some] <;> rfl), by repeat (first | (with_reducible first | exact HB.out | apply below_alloc | apply pw_below_drewN | apply below_drew1 | refine below_set ?_ GE184.out | refine below_set ?_ GE185.out) | exact HB.out)⟩
end
section
theorem KR_heap : Kd.Heap KR := Kd.heap_iso _ (Kd.heap_pair Kd.heap_string (Kd.heap_int .i64))
theorem KP_heap : Kd.Heap KP := Kd.heap_iso _ (Kd.heap_pair Kd.heap_string (Kd.heap_slice 49 KR_heap))
theorem of_l0 (su bo : ByteArray) (ps : List PP) (hs : szP ps) : ∀ (suf pre : List PP), pre ++ suf = ps → Ev (fun k => colloquylaw20_of.l0 k ps (ps.length : Int) (pre.length : Int) su bo (pre.map cv)) (su, bo, ps.map cv)
  | [], pre, h => by
    rw [List.append_nil] at h
    subst h
    exact Ev.step (f := fun _ => some (su, bo, pre.map cv)) (fun k => by rw [colloquylaw20_of.l0, if_neg (by omega)]) (Ev.now _)
  | p :: suf, pre, h => by
    subst h
    have hl : pre.length + 1 ≤ 3518437208883 := by have h_ := hs.1; simp at h_; omega
    have ih := of_l0 su bo (pre ++ p :: suf) hs suf (pre ++ [p]) (by rw [← app1])
    refine Ev.step (fun k => ?_) ih
    rw [colloquylaw20_of.l0, if_pos (ltA _ _ _), if_pos (by omega), if_pos (ltA _ _ _), if_pos (by rw [List.length_map]; omega), rdP, wr1 pre p (by omega), List.map_append]
    rfl
theorem of_ev (su bo : ByteArray) (ps : List PP) (hs : szP ps) : Ev (fun k => colloquylaw20_of.f k su bo ps) (su, bo, ps.map cv) := of_l0 su bo ps hs ps [] rfl
theorem same_l1 (su bo : ByteArray) (pre suf : List PP) (p : PP) (hl : pre.length < 9223372036854775807) (hb : Ev (fun k => colloquyref20_Same.l0 k ((pre ++ [p]).length : Int) su bo ((pre ++ p :: suf).map cv) su bo ((pre ++ p :: suf).map cv)) true) : ∀ (rsuf rpre : List RS), rpre ++ rsuf = p.f1 → p.f1.length ≤ 9223372036854775807 → Ev (fun k => colloquyref20_Same.l1 k (pre.length : Int) (rpre.length : Int) su bo ((pre ++ p :: suf).map cv) su bo ((pre ++ p :: suf).map cv)) true
  | [], rpre, h, _ => by
    rw [List.append_nil] at h
    refine Ev.step (fun k => ?_) hb
    rw [colloquyref20_Same.l1, if_pos (by omega), if_pos (ltQ _ _ _), rdQ, if_neg (by show ¬ (rpre.length : Int) < (p.f1.length : Int); rw [h]; omega), wr1 pre p hl]
  | r :: rs, rpre, h, hm => by
    have ih := same_l1 su bo pre suf p hl hb rs (rpre ++ [r]) (by rw [← app1]; exact h) hm
    have hlt : (rpre.length : Int) < ((cv p).f1.length : Int) := by show (rpre.length : Int) < (p.f1.length : Int); rw [← h]; exact ltA _ _ _
    have hlt2 : rpre.length < 9223372036854775807 := by have : (rpre.length : Int) < (p.f1.length : Int) := hlt; omega
    refine Ev.step (fun k => ?_) ih
    rw [colloquyref20_Same.l1, if_pos (by omega), if_pos (ltQ _ _ _), rdQ, if_pos hlt, if_pos (by omega), if_pos (ltQ _ _ _), if_pos hlt, if_neg (by simp), wr1 rpre r hlt2]
theorem same_l0 (su bo : ByteArray) (ps : List PP) (hs : szP ps) : ∀ suf pre, pre ++ suf = ps → Ev (fun k => colloquyref20_Same.l0 k (pre.length : Int) su bo (ps.map cv) su bo (ps.map cv)) true
  | [], pre, h => by
    subst h
    exact Ev.step (f := fun _ => some true) (fun k => by rw [colloquyref20_Same.l0, if_neg (nltQ _)]) (Ev.now _)
  | p :: suf, pre, h => by
    have ih := same_l0 su bo ps hs suf (pre ++ [p]) (by rw [← app1]; exact h)
    subst h
    have hl : pre.length < 9223372036854775807 := by have h_ := hs.1; simp at h_; omega
    have h1 := same_l1 su bo pre suf p hl ih p.f1 [] rfl (by have := hs.2 p (by simp); omega)
    refine Ev.step (f := fun k => colloquyref20_Same.j2 k (pre.length : Int) false su bo ((pre ++ p :: suf).map cv) su bo ((pre ++ p :: suf).map cv)) (fun k => ?_) (Ev.step (fun k => ?_) h1)
    · rw [colloquyref20_Same.l0, if_pos (ltQ _ _ _), if_pos (by omega), if_pos (ltQ _ _ _), rdQ, if_pos rfl]
      congr 1
      exact bne_self_eq_false _
    · rw [colloquyref20_Same.j2, if_neg (by decide)]
      rfl
theorem same_ev (su bo : ByteArray) (ps : List PP) (hs : szP ps) : Ev (fun k => colloquyref20_Same.f k su bo (ps.map cv) su bo (ps.map cv)) true := by
  refine Ev.congr (f := fun k => colloquyref20_Same.j0 k false su bo (ps.map cv) su bo (ps.map cv)) (fun k => ?_) (Ev.step (fun k => ?_) (same_l0 su bo ps hs ps [] rfl))
  · rw [colloquyref20_Same.f, if_pos rfl, if_pos rfl]
    congr 1
    exact bne_self_eq_false _
  · rw [colloquyref20_Same.j0, if_neg (by decide)]
    rfl
section
variable {w0 w w1 : World} {R : Chunk} {A A2 : Option Addr} {c c2 : Nat} {su bo : ByteArray} {ps : List PP} {S : Nat → Prop}
theorem right_calls (A : Option Addr) (c : Nat) (su bo : ByteArray) (ps : List PP) (w : World) (hz : szP ps) (hr : Kd.C KP w A ps.length ps) (hc : ps.length ≤ c) : Calls Tryd.prog 14 #[.agg #[.string su, .string bo, .slice A ps.length c]] w fun e w' => e = .returned (.bool (rightS su bo ps)) ∧ Below w.heap.size w w' := by
  obtain ⟨k, hk⟩ := right_ev su bo ps hz
  exact sum_Right.calls k su bo A c ps _ w hr hc (hk k (Nat.le_refl _))
theorem few_calls (A : Option Addr) (c : Nat) (su bo : ByteArray) (ps : List PP) (w : World) (hz : szP ps) (hr : Kd.C KP w A ps.length ps) (hc : ps.length ≤ c) : Calls Tryd.prog 10 #[.agg #[.string su, .string bo, .slice A ps.length c]] w fun e w' => e = .returned (.bool (decide ((ps.length : Int) + sumL ps ≤ 2000))) ∧ Below w.heap.size w w' := by
  obtain ⟨k, hk⟩ := few_ev su bo ps hz
  exact colloquylaw20_few.calls k su bo A c ps _ w hr hc (hk k (Nat.le_refl _))
theorem same_calls (A A2 : Option Addr) (c c2 : Nat) (su bo : ByteArray) (ps : List PP) (w : World) (hz : szP ps) (hr : Kd.C KQ w A (ps.map cv).length (ps.map cv)) (hc : (ps.map cv).length ≤ c) (hr2 : Kd.C KQ w A2 (ps.map cv).length (ps.map cv)) (hc2 : (ps.map cv).length ≤ c2) : Calls Tryd.prog 20 #[.agg #[.string su, .string bo, .slice A (ps.map cv).length c], .agg #[.string su, .string bo, .slice A2 (ps.map cv).length c2]] w fun e w' => e = .returned (.bool true) ∧ Below w.heap.size w w' := by
  obtain ⟨k, hk⟩ := same_ev su bo ps hz
  exact colloquyref20_Same.calls k su bo A c (ps.map cv) su bo A2 c2 (ps.map cv) _ w hr hc hr2 hc2 (hk k (Nat.le_refl _))
theorem of_frz (w0 w w1 : World) (R : Chunk) (S : Nat → Prop) (A : Option Addr) (c : Nat) (su bo : ByteArray) (ps : List PP) (hz : szP ps) (hb1 : Below w0.heap.size w0 w1) (hF : Kd.F KP w1 (okF w0 S) A ps.length ps) (hc : ps.length ≤ c) (HO : Own w0 w [R, Chunk.frz w1 S]) : Calls Tryd.prog 11 #[.agg #[.string su, .string bo, .slice A ps.length c]] w fun e w' => ∃ (A2 : Option Addr) (c2 : Nat) (w2 : World) (S2 : Nat → Prop), e = .returned (.agg #[.string su, .string bo, .slice A2 (ps.map cv).length c2]) ∧ Own w0 w' [R, Chunk.frz w2 S2] ∧ Below w0.heap.size w0 w2 ∧ Kd.F KP w2 (okF w0 S2) A ps.length ps ∧ Kd.F KQ w2 (okF w0 S2) A2 (ps.map cv).length (ps.map cv) ∧ (ps.map cv).length ≤ c2 := by
  obtain ⟨k, hk⟩ := of_ev su bo ps hz
  have hF2 := frz_F HO (i := 1) rfl hb1 hF
  refine (colloquylaw20_of.calls k su bo _ A c ps _ _ _ w (Kd.V_mk hc hF2) (hk k (Nat.le_refl _))).mono ?_
  rintro e w' ⟨v, rfl, hN, hb⟩
  obtain ⟨A2, c2, rfl⟩ := Kd.N_slice hN
  exact ⟨A2, c2, w', _, rfl, frz_grow HO 1 rfl hb, (HO.after hb).below, Kd.F_mono (Kd.F_below hF2 hb) (fun k hk => hk.elim .inl fun h => .inr (.inl h)), Kd.F_mono (Kd.F_bound (Kd.N_F hN)) (fun k hk => hk.1.elim (fun h => h.elim .inl fun h => .inr (.inl h)) fun h => .inr (.inr ⟨h, hk.2⟩)), (Kd.N_reads' hN).2.1⟩
abbrev firstL : List PP := [⟨⟨#[103]⟩, [⟨⟨#[116]⟩, 1⟩]⟩]
theorem first_frz (w0 w : World) (R : Chunk) (HO : Own w0 w [R]) : Calls Tryd.prog 21 #[] w fun e w' => ∃ (A2 : Option Addr) (c2 : Nat) (w1 : World) (S : Nat → Prop), e = .returned (.agg #[.string ⟨#[115]⟩, .string ⟨#[98]⟩, .slice A2 firstL.length c2]) ∧ Own w0 w' [Chunk.frz w1 S, R] ∧ Below w0.heap.size w0 w1 ∧ Kd.F KP w1 (okF w0 S) A2 firstL.length firstL ∧ firstL.length ≤ c2 := by
  refine (colloquylaw20_first.calls _ _ _ w rfl).mono ?_
  rintro e w' ⟨v, rfl, hN, hb⟩
  obtain ⟨A2, c2, rfl⟩ := Kd.N_slice hN
  exact ⟨A2, c2, w', _, rfl, frz_new HO hb, (HO.after hb).below, Kd.F_mono (Kd.F_bound (Kd.N_F hN)) (fun k hk => .inr ⟨hk.1, hk.2⟩), (Kd.N_reads' hN).2.1⟩
theorem parse_frz (w0 w : World) (R : Chunk) (s : ByteArray) (hs : s.size ≤ 100000000) (hL : LaidW w0) (HO : Own w0 w [R]) : Calls Tryd.prog 18 #[.string s] w fun e w' => ∃ (A2 : Option Addr) (c2 : Nat) (w1 : World) (S : Nat → Prop), e = .returned (.tuple #[.agg #[.string (outS s).1, .string (outS s).2.1, .slice A2 (outS s).2.2.length c2], .int .i64 (codeP s), .int .i64 (parseP s).2]) ∧ Own w0 w' [Chunk.frz w1 S, R] ∧ Below w0.heap.size w0 w1 ∧ Kd.F KP w1 (okF w0 S) A2 (outS s).2.2.length (outS s).2.2 ∧ (outS s).2.2.length ≤ c2 := by
  refine (parse_calls s w hs (hL.own HO)).mono ?_
  rintro e w' ⟨A2, c2, S, rfl, ho⟩
  have h1 := HO.fresh ho
  obtain ⟨h2, h3, h4, h5⟩ := frz_view h1 0 rfl
  exact ⟨A2, c2, w', S, rfl, h2, h5, h3, h4⟩
end
section
theorem told_yes {s su bo : ByteArray} {l : List PP} (h : parseP s = (some (su, bo, l), 0)) : outS s = (su, bo, l) ∧ codeP s = 0 ∧ (parseP s).2 = 0 := by
  unfold outS codeP
  rw [h]
  exact ⟨rfl, rfl, rfl⟩
theorem parse_told (w0 w : World) (R : Chunk) (s su bo : ByteArray) (l : List PP) (code at_ : Int) (h : outS s = (su, bo, l) ∧ codeP s = code ∧ (parseP s).2 = at_) (hs : s.size ≤ 100000000) (hL : LaidW w0) (HO : Own w0 w [R]) : Calls Tryd.prog 18 #[.string s] w fun e w' => ∃ (A2 : Option Addr) (c2 : Nat) (w1 : World) (S : Nat → Prop), e = .returned (.tuple #[.agg #[.string su, .string bo, .slice A2 l.length c2], .int .i64 code, .int .i64 at_]) ∧ Own w0 w' [Chunk.frz w1 S, R] ∧ Below w0.heap.size w0 w1 ∧ Kd.F KP w1 (okF w0 S) A2 l.length l ∧ l.length ≤ c2 := by
  have := parse_frz w0 w R s hs hL HO
  rw [h.1, h.2.1, h.2.2] at this
  exact this
end
theorem firstL_sz : szP firstL := ⟨by decide, by decide⟩
theorem dec_one : Lib.decDigits 1 = [49] := by rw [Lib.decDigits, dif_pos (by decide)]; rfl
abbrev sB : ByteArray := ⟨#[115]⟩
abbrev bB : ByteArray := ⟨#[98]⟩
abbrev oneB : ByteArray := ⟨#[84, 101, 115, 116, 32, 114, 117, 110, 32, 111, 102, 32, 115, 10, 66, 111, 97, 114, 100, 32, 98, 10, 103, 114, 111, 117, 112, 32, 103, 10, 80, 65, 83, 83, 58, 32, 116, 10, 35, 32, 80, 65, 83, 83, 32, 49, 10, 35, 32, 101, 110, 100, 10]⟩
theorem right_one : rightS sB bB firstL = true := by decide +kernel
theorem tots_one : totsL firstL 8 = [(⟨#[35, 32]⟩ : ByteArray) ++ vtB 1 ++ (⟨#[32]⟩ : ByteArray) ++ itB (totL firstL 1)] := rfl
theorem it_one : itB (totL firstL 1) = ⟨#[49]⟩ := by
  show itB 1 = _
  unfold itB Lib.itoa
  rw [if_neg (by decide), show (1 : Int).toNat = 1 from rfl, dec_one]
theorem text_one : textL sB bB firstL = oneB := by
  unfold textL linesL
  rw [if_pos right_one, tots_one, it_one]
  decide +kernel
end
section
section
variable {su bo : ByteArray} {ps : List PP}
theorem right_parts (h : rightS su bo ps = true) : ps.all partOK = true := by
  unfold rightS at h
  rw [Bool.and_eq_true] at h
  exact h.2
end
end
section
section
attribute [local go_sem high] eqA49
end
def relK (w : World) (Wa : List W2) (ps : List PP) : Prop := Wa.length = ps.length ∧ ∀ (j : Nat) x p, Wa[j]? = some x → ps[j]? = some p → KP.K w p (encW x)
theorem parts_W {w : World} {A : Option Addr} {n : Nat} {ps : List PP} (h : Kd.C KP w A n ps) : ∃ Wa, relK w Wa ps ∧ Kd.C kW w A n Wa := by
  by_cases hn : 0 < n
  · obtain ⟨ad, hA, hc⟩ := h.2.2 hn
    have key : ∀ j : Nat, ∃ x : W2, ∀ p, ps[j]? = some p → KP.K w p (encW x) ∧ ∀ i u, (encW x)[i]? = some u → w.cell? (ad.add (j * KP.sz + i)) = some u := by
      intro j
      by_cases hj : j < ps.length
      · obtain ⟨cs, hl, hk, hcc⟩ := hc j _ (List.getElem?_eq_getElem hj)
        obtain ⟨A1, c1, e, _, _⟩ := k46_open hk
        refine ⟨⟨ps[j].f0, ⟨A1, ps[j].f1.length, c1⟩⟩, fun p hp => ?_⟩
        obtain rfl : ps[j] = p := by rw [List.getElem?_eq_getElem hj] at hp; exact Option.some.inj hp
        have e2 : cs = encW ⟨ps[j].f0, ⟨A1, ps[j].f1.length, c1⟩⟩ := e
        rw [← e2]
        exact ⟨hk, hcc⟩
      · exact ⟨zW, fun p hp => by rw [List.getElem?_eq_none (by omega)] at hp; cases hp⟩
    obtain ⟨f, hf⟩ := Classical.skolem.1 key
    have hl : ((List.range ps.length).map f).length = ps.length := by simp
    have hat : ∀ (j : Nat) x, ((List.range ps.length).map f)[j]? = some x → j < ps.length ∧ x = f j := by
      intro j x hx
      have hj : j < ps.length := by have := (List.getElem?_eq_some_iff.1 hx).1; rwa [hl] at this
      refine ⟨hj, ?_⟩
      rw [List.getElem?_map, List.getElem?_range hj] at hx
      exact (Option.some.inj hx).symm
    refine ⟨(List.range ps.length).map f, ⟨hl, fun j x p hx hp => ?_⟩, by rw [hl]; exact h.1, h.2.1, fun _ => ⟨ad, hA, fun j x hx => ?_⟩⟩
    · rw [(hat j x hx).2]
      exact (hf j p hp).1
    · obtain ⟨hj, rfl⟩ := hat j x hx
      exact ⟨encW (f j), rfl, kW_mk w _, (hf j _ (List.getElem?_eq_getElem hj)).2⟩
  · have hl : ps = [] := List.length_eq_zero_iff.1 (by have := h.1; omega)
    subst hl
    exact ⟨[], ⟨rfl, fun j x p hx => by simp at hx⟩, h.1, h.2.1, fun h => absurd h hn⟩
theorem relK_app {w : World} {Wa Wb : List W2} {ps qs : List PP} (h : relK w Wa ps) (h2 : relK w Wb qs) : relK w (Wa ++ Wb) (ps ++ qs) := by
  refine ⟨by rw [List.length_append, List.length_append, h.1, h2.1], fun j x p hx hp => ?_⟩
  by_cases hj : j < Wa.length
  · rw [List.getElem?_append_left hj] at hx
    rw [List.getElem?_append_left (by rw [← h.1]; exact hj)] at hp
    exact h.2 j x p hx hp
  · rw [List.getElem?_append_right (by omega)] at hx
    rw [List.getElem?_append_right (by rw [← h.1]; omega), ← h.1] at hp
    exact h2.2 _ x p hx hp
theorem relK_two {w : World} {Wa Wb : List W2} {ps qs : List PP} (h : relK w Wa ps) (h2 : relK w Wb qs) : relK w (([] ++ Wa) ++ Wb) (ps ++ qs) := by
  rw [List.nil_append]
  exact relK_app h h2
theorem parts_frz {w0 w : World} {L : List Chunk} {e base n c : Nat} {S : Nat → Prop} {A : Option Addr} {Wd : List W2} {qs : List PP} (HO : Own w0 w L) (i : Nat) (hi : L[i]? = some (Chunk.row kW e base S (.slice A n c) Wd)) (hr : relK w0 Wd qs) : Own w0 w (L.set i (Chunk.frz w S)) ∧ Kd.F KP w (okF w0 S) A n qs ∧ n ≤ c ∧ Below w0.heap.size w0 w := by
  have hR : kW.R e w base S (.slice A n c) Wd := HO.get i hi
  refine ⟨HO.frz i hi, fun W' hW => ?_, (Kd.R_reads' hR).2.1, HO.below⟩
  have hb := Kd.R_reads' hR
  have hC : kW.C W' A n Wd := (Kd.R_F hR : Kd.F kW w S A n Wd) W' fun k hk hlt => hW k (.inr hk) hlt
  refine ⟨by rw [← hr.1]; exact hC.1, hC.2.1, fun hn => ?_⟩
  obtain ⟨ad, hA, hc⟩ := hC.2.2 hn
  refine ⟨ad, hA, fun j p hj => ?_⟩
  have hlt : j < Wd.length := by rw [hr.1]; exact (List.getElem?_eq_some_iff.1 hj).1
  obtain ⟨cs, hl, hk, hcc⟩ := hc j Wd[j] (List.getElem?_eq_getElem hlt)
  refine ⟨cs, hl, ?_, hcc⟩
  rw [kW_open hk]
  exact KP_heap.K (fun k hk => (hW k (.inl hk) (Nat.lt_of_lt_of_le hk HO.below.size)).trans (HO.below.block k hk)) (hr.2 j _ p (List.getElem?_eq_getElem hlt) hj)
section
variable {ls qs : List PP}
theorem tot_app (v : Int) : totL (ls ++ qs) v = totL ls v + totL qs v := by
  induction ls with
  | nil => simp [totL]
  | cons x xs ih => rw [List.cons_append]; simp only [totL]; rw [ih]; omega
theorem sz_app (h : szP ls) (h2 : szP qs) (hl : ls.length + qs.length ≤ 3518437208883) : szP (ls ++ qs) := ⟨by rw [List.length_append]; exact hl, fun p hp => (List.mem_append.1 hp).elim (h.2 p) (h2.2 p)⟩
theorem right_app {su bo su2 bo2 : ByteArray} (h : rightS su bo ls = true) (h2 : rightS su2 bo2 qs = true) : rightS su bo (ls ++ qs) = true := by
  unfold rightS at h ⊢
  rw [List.all_append, right_parts h2, Bool.and_true]
  exact h
theorem getD_app_l (i : Int) (h0 : 0 ≤ i) (h : i < ls.length) : (ls ++ qs).getD i.toNat z46 = ls.getD i.toNat z46 := by
  rw [List.getD_eq_getElem?_getD, List.getD_eq_getElem?_getD, List.getElem?_append_left (by omega)]
theorem getD_app_r (i : Int) (h0 : 0 ≤ i) (h : ¬ i < ls.length) : (ls ++ qs).getD i.toNat z46 = qs.getD (i - ls.length).toNat z46 := by
  rw [List.getD_eq_getElem?_getD, List.getD_eq_getElem?_getD, List.getElem?_append_right (by omega), show i.toNat - ls.length = (i - ls.length).toNat by omega]
end
end
section
section
variable {D : List Deferred} {P : Program} {ops : Array Oper} {Q : Exit → Act → World → Prop} {B : Nat → Bool} {a : Act} {w0 w : World} {M : List Chunk} {o1 o2 o3 o4 : Oper}
theorem gx_cut {fuel : Nat} {listed : Array Bool} (V : Act → World → Prop) (T : Array Bool) (f : Nat) (h1 : ∀ a w, V a w → wpX P .any ops (NoPanic Q) (Held w0 M) B f T a w)
    (h2 : (∀ a w, V a w → wpX P .any ops (NoPanic Q) (Held w0 M) B f T a w) → wpX P .any ops (NoPanic Q) (Held w0 M) B fuel listed a w) : wpX P .any ops (NoPanic Q) (Held w0 M) B fuel listed a w := h2 h1
theorem gx_ways {fuel : Nat} {listed : Array Bool} (l : List Nat) (hr : Region.ready .any ops listed = l) (h0 : l ≠ [])
    (h : ∀ i ∈ l, wpOp P ops (NoPanic Q) i (fun a' w' => (B i = false → Held w0 M w') ∧ wpX P .any ops (NoPanic Q) (Held w0 M) B fuel (listed.setIfInBounds i true) a' w') a w) : wpX P .any ops (NoPanic Q) (Held w0 M) B (fuel + 1) listed a w :=
  ⟨fun h1 => absurd (hr.symm.trans h1) h0, fun k hk => h k (by rw [hr] at hk; exact hk)⟩
theorem gx_step3 {fuel : Nat} {listed : Array Bool} (i j k : Nat) (h1 : ops[i]? = some o1) (h2 : ops[j]? = some o2) (h3 : ops[k]? = some o3) (hr : Region.ready .any ops listed = [i, j, k])
    (k1 : wpList P ops (Patch (fun a' w' => (B i = false → Held w0 M w') ∧ wpX P .any ops (NoPanic Q) (Held w0 M) B fuel (listed.setIfInBounds i true) a' w') (NoPanic Q)) [o1] a w)
    (k2 : wpList P ops (Patch (fun a' w' => (B j = false → Held w0 M w') ∧ wpX P .any ops (NoPanic Q) (Held w0 M) B fuel (listed.setIfInBounds j true) a' w') (NoPanic Q)) [o2] a w)
    (k3 : wpList P ops (Patch (fun a' w' => (B k = false → Held w0 M w') ∧ wpX P .any ops (NoPanic Q) (Held w0 M) B fuel (listed.setIfInBounds k true) a' w') (NoPanic Q)) [o3] a w) : wpX P .any ops (NoPanic Q) (Held w0 M) B (fuel + 1) listed a w :=
  gx_ways _ hr (by simp) fun q hq => by
    rcases List.mem_cons.1 hq with rfl | hq
    · exact wpOp_of_list h1 k1
    rcases List.mem_cons.1 hq with rfl | hq
    · exact wpOp_of_list h2 k2
    obtain rfl : q = k := by simpa using hq
    exact wpOp_of_list h3 k3
theorem gx_two {fuel : Nat} {listed : Array Bool} (i j : Nat) (h1 : ops[i]? = some o1) (h2 : ops[j]? = some o2) (hr : Region.ready .any ops listed = [i, j])
    (k1 : wpList P ops (Patch (fun a' w' => (B i = false → Held w0 M w') ∧ wpX P .any ops (NoPanic Q) (Held w0 M) B fuel (listed.setIfInBounds i true) a' w') (NoPanic Q)) [o1] a w)
    (k2 : wpList P ops (Patch (fun a' w' => (B j = false → Held w0 M w') ∧ wpX P .any ops (NoPanic Q) (Held w0 M) B fuel (listed.setIfInBounds j true) a' w') (NoPanic Q)) [o2] a w) : wpX P .any ops (NoPanic Q) (Held w0 M) B (fuel + 1) listed a w :=
  gx_ways _ hr (by simp) fun q hq => by
    rcases List.mem_cons.1 hq with rfl | hq
    · exact wpOp_of_list h1 k1
    obtain rfl : q = j := by simpa using hq
    exact wpOp_of_list h2 k2
theorem gx_step4 {fuel : Nat} {listed : Array Bool} (i j k m : Nat) (h1 : ops[i]? = some o1) (h2 : ops[j]? = some o2) (h3 : ops[k]? = some o3) (h4 : ops[m]? = some o4) (hr : Region.ready .any ops listed = [i, j, k, m])
    (k1 : wpList P ops (Patch (fun a' w' => (B i = false → Held w0 M w') ∧ wpX P .any ops (NoPanic Q) (Held w0 M) B fuel (listed.setIfInBounds i true) a' w') (NoPanic Q)) [o1] a w)
    (k2 : wpList P ops (Patch (fun a' w' => (B j = false → Held w0 M w') ∧ wpX P .any ops (NoPanic Q) (Held w0 M) B fuel (listed.setIfInBounds j true) a' w') (NoPanic Q)) [o2] a w)
    (k3 : wpList P ops (Patch (fun a' w' => (B k = false → Held w0 M w') ∧ wpX P .any ops (NoPanic Q) (Held w0 M) B fuel (listed.setIfInBounds k true) a' w') (NoPanic Q)) [o3] a w)
    (k4 : wpList P ops (Patch (fun a' w' => (B m = false → Held w0 M w') ∧ wpX P .any ops (NoPanic Q) (Held w0 M) B fuel (listed.setIfInBounds m true) a' w') (NoPanic Q)) [o4] a w) : wpX P .any ops (NoPanic Q) (Held w0 M) B (fuel + 1) listed a w :=
  gx_ways _ hr (by simp) fun q hq => by
    rcases List.mem_cons.1 hq with rfl | hq
    · exact wpOp_of_list h1 k1
    rcases List.mem_cons.1 hq with rfl | hq
    · exact wpOp_of_list h2 k2
    rcases List.mem_cons.1 hq with rfl | hq
    · exact wpOp_of_list h3 k3
    obtain rfl : q = m := by simpa using hq
    exact wpOp_of_list h4 k4
end
end
namespace GText_
theorem text_calls (su bo : ByteArray) (A0 : Option Addr) (c0 : Nat) (ps : List S46) (w : World) (hr : Kd.C k46 w A0 ps.length ps) (hc : ps.length ≤ c0) (hsm : ps.length + sumL ps ≤ 1000000000) (hL : LaidW w) (hz : szP ps) :
    Calls Tryd.prog 16 #[.agg #[.string su, .string bo, .slice A0 ps.length c0]] w fun e w' => e = .returned (.string (textL su bo ps)) ∧ Below w.heap.size w w' := by
 have hpl := len_C hr
 have hll := lines_len su bo ps
 have hcz : (catL (linesL su bo ps)).size ≤ 140737488355328 := by have h_ := cat_size _ (line_sz su bo ps (by omega)); omega
 refine gw_start (N := 10) (vs := [.agg #[.string su, .string bo, .slice A0 ps.length c0]]) Tryd.func16 rfl rfl (by simp) fun a HF HO => ?_
 replace HO : Own w w [] := HO
 refine gR fun K1 hK1 => ?_
 refine gw_new HF HO (want_none rfl) rfl (by decide) (op_box rfl (HF.ev rfl)) ?_
 intro g2 _ w4 H5 O6; clear HF HO
 have O7 : Own w w4 [Bk g2 [.string su, .string bo, .slice A0 ps.length c0] 24] := O6
 clear O6
 refine Vc H5 fun _ H9 => ?_
 refine gE hK1 ?_
 refine gw_seq fun K10 hK10 => ?_
 refine gR fun K11 hK11 => ?_
 refine V H9 (op_loadn gwagg24 gwsiz24 rfl (H9.ev rfl) (O7.get 0 rfl) rfl rfl) fun _ H13 => ?_
 clear H5 H9
 refine Wk H13 Tryd.func14 rfl (ar_cons (H13.ev rfl) ar_nil) (right_calls A0 c0 su bo ps _ hz (Kd.C_below hr O7.below) hc) ?_
 rintro e14 w15 ⟨rfl, hb16⟩
 refine ⟨_, rfl, fun _ H18 => ?_⟩
 have O19 := O7.after hb16
 clear H13 O7 hb16
 refine V H18 (op_not rfl (H18.ev rfl)) fun _ H22 => ?_
 refine gE hK11 ?_
 clear H18
 refine gw_cond H22 rfl (fun hb23 => ?_) (fun hb23 => ?_)
 ·
  have H24 := H22.subst_ (d := 5) (b := true) rfl hb23
  clear H22
  (try simp only [Bool.and_eq_true, Bool.and_eq_false_iff, Bool.not_and, Bool.or_eq_true, Bool.or_eq_false_iff, Bool.not_or, Bool.not_not, Bool.not_eq_true', Bool.not_eq_false', Bool.not_eq_true, Bool.not_eq_false] at hb23)
  have hno : rightS su bo ps = false := by have hb_ := hb23; revert hb_; cases rightS su bo ps <;> simp
  refine gR fun K25 hK25 => ?_
  refine Vc H24 fun _ H27 => ?_
  refine gE hK25 ?_
  refine wp_ret ?_
  clear H24
  refine gw_thr ?_
  refine gw_ret1 H27 rfl rfl ?_
  exact ⟨by unfold textL; rw [if_neg (by rw [hno]; decide)], O19.below⟩
 have H28 := H22.subst_ (d := 5) (b := false) rfl hb23
 clear H22
 (try simp only [Bool.and_eq_true, Bool.and_eq_false_iff, Bool.not_and, Bool.or_eq_true, Bool.or_eq_false_iff, Bool.not_or, Bool.not_not, Bool.not_eq_true', Bool.not_eq_false', Bool.not_eq_true, Bool.not_eq_false] at hb23)
 have hyes : rightS su bo ps = true := by have hb_ := hb23; revert hb_; cases rightS su bo ps <;> simp
 refine gS hK10 ?_
 refine gR fun K29 hK29 => ?_
 refine V H28 (op_loadn gwagg24 gwsiz24 rfl (H28.ev rfl) (O19.get 0 rfl) rfl rfl) fun _ H31 => ?_
 clear H28
 refine Wk H31 Tryd.func28 rfl (ar_cons (H31.ev rfl) ar_nil) (lines_calls su bo A0 c0 ps _ (Kd.C_below hr O19.below) hc hsm (hL.own O19)) ?_
 rintro e35 w36 ⟨A32, c33, S34, rfl, hb37⟩
 refine ⟨_, rfl, fun _ H39 => ?_⟩
 have O40 := O19.fresh hb37
 have hbel41 := O19.below
 clear H31 O19 hb37
 have O42 := O40.lowrow 0 rfl (base' := w.heap.size) (Below.size hbel41)
 refine Wk H39 Tryd.func27 rfl (ar_cons (H39.ev rfl) (ar_cons (ev_c _ _) ar_nil)) (join_row (O42.get 0 rfl) (by intro h_; have h2_ := lines_len su bo ps; rw [h_] at h2_; simp at h2_) (by have h2_ := lines_len su bo ps; omega) hcz) ?_
 rintro e43 w44 ⟨rfl, hb45⟩
 refine ⟨_, rfl, fun _ H47 => ?_⟩
 have O48 := O42.after hb45
 clear H39 O42 hb45
 refine V H47 (op_cats rfl (H47.ev rfl) (ev_c _ _) (by have h_ : (joinB (linesL su bo ps)).size = (Lib.join ((linesL su bo ps).map (·.data.toList)) [10]).length := List.size_toArray ..; have h2_ := join_size (linesL su bo ps) (by intro h3_; rw [h3_] at hll; simp at hll); show (joinB (linesL su bo ps)).size + 1 ≤ _; omega)) fun _ H51 => ?_
 refine Va H51 fun _ H53 => ?_
 refine gE hK29 ?_
 refine wp_ret ?_
 clear H47 H51
 refine gw_ret1 H53 rfl rfl ?_
 exact ⟨by unfold textL; rw [if_pos hyes, ← join_cat (linesL su bo ps) (by intro h3_; rw [h3_] at hll; simp at hll)], O48.below⟩
end GText_
export GText_ (text_calls)
namespace GAlive_
theorem alive_walk (w : World) (hL : LaidW w) :
    Calls Tryd.prog 9 #[] w fun e w' => e = .returned (.bool true) ∧ Below w.heap.size w w' := by
 refine gw_start (N := 36) (vs := []) Tryd.func9 rfl rfl (by simp) fun a HF HO => ?_
 replace HO : Own w w [] := HO
 refine gR fun K1 hK1 => ?_
 refine Vc HF ?_
 intro _ H3; clear HF
 refine gE hK1 ?_
 refine gR fun K4 hK4 => ?_
 have O19 : Own w _ [(Chunk.all [])] := Own.bundle (HO.sel [] (by decide))
 refine Wk H3 Tryd.func21 rfl ar_nil (first_frz w _ (Chunk.all []) O19) ?_
 rintro e13 w14 ⟨A5, c6, wz7, S8, rfl, hb15, hbz9, hFz10, hlz11⟩
 refine ⟨_, rfl, fun _ H17 => ?_⟩
 have O18 : Own w w14 [Chunk.frz wz7 S8] := Own.unbundle (hb15.sel [1, 0] (by decide))
 clear O19
 clear H3 HO hb15
 refine Wk H17 Tryd.func16 rfl (ar_cons (H17.ev rfl) ar_nil) (text_calls (⟨#[115]⟩ : ByteArray) (⟨#[98]⟩ : ByteArray) A5 c6 firstL _ (frz_C (i := 0) O18 rfl hbz9 hFz10) hlz11 (by decide : firstL.length + sumL firstL ≤ 1000000000) (hL.own O18) firstL_sz) ?_
 rintro e21 w22 ⟨rfl, hb23⟩
 refine ⟨_, rfl, fun _ H25 => ?_⟩
 have O26 := O18.after hb23
 clear H17 O18 hb23
 refine Va H25 fun _ H29 => ?_
 refine gE hK4 ?_
 refine gR fun K30 hK30 => ?_
 refine Vm H29 fun _ H32 => ?_
 clear H25 H29
 have O47 : Own w _ [(Chunk.all [Chunk.frz wz7 S8])] := Own.bundle (O26.sel [0] (by decide))
 refine Wk H32 Tryd.func18 rfl (ar_cons (H32.ev rfl) ar_nil) (parse_told w _ (Chunk.all [Chunk.frz wz7 S8]) (textL (⟨#[115]⟩ : ByteArray) (⟨#[98]⟩ : ByteArray) firstL) (⟨#[115]⟩ : ByteArray) (⟨#[98]⟩ : ByteArray) firstL 0 0 (told_yes (parse_text _ _ _ right_one)) (by rw [text_one]; decide) hL O47) ?_
 rintro e41 w42 ⟨A33, c34, wz35, S36, rfl, hb43, hbz37, hFz38, hlz39⟩
 refine ⟨_, rfl, fun _ H45 => ?_⟩
 have O46 : Own w w42 [Chunk.frz wz7 S8, Chunk.frz wz35 S36] := Own.unbundle (hb43.sel [1, 0] (by decide))
 clear O47
 clear H32 O26 hb43
 refine Vm H45 fun _ H50 => ?_
 refine Vx H50 fun _ H52 => ?_
 refine Vx H52 fun _ H54 => ?_
 refine Vx H54 fun _ H56 => ?_
 clear H45 H50 H52 H54
 refine gw_new H56 O46 (want_none rfl) rfl (by decide) (op_alloc gwzer24 rfl) ?_
 intro g57 _ w59 H60 O61; clear H56 O46
 have O62 : Own w w59 [Bk g57 [.string (⟨#[]⟩ : ByteArray), .string (⟨#[]⟩ : ByteArray), .slice none 0 0] 24, Chunk.frz wz7 S8, Chunk.frz wz35 S36] := O61
 clear O61
 refine gw_setn 0 H60 O62 rfl (want_none rfl) rfl (op_storen gwsiz24 rfl (H60.ev rfl) (H60.ev rfl) (O62.get 0 rfl) rfl (by simp) (by simp [Value.oneCell'])) ?_
 intro _ w65 H64 O66; clear H60 O62
 refine Va H64 fun _ H68 => ?_
 refine Va H68 fun _ H70 => ?_
 refine gE hK30 ?_
 refine gR fun K71 hK71 => ?_
 refine Vm H70 fun _ H73 => ?_
 refine V H73 (op_eqs rfl (H73.ev rfl) (ev_c _ _)) fun _ H75 => ?_
 clear H64 H68 H70 H73
 have H76 := H75.lit (b := true) (by rw [text_one]; simp)
 clear H75
 refine Vm H76 fun _ H78 => ?_
 refine V2 H78 (want_yes H78 rfl rfl rfl rfl) (op_move rfl (H78.ev rfl)) fun _ H80 => ?_
 refine V2 H80 (want_yes H80 rfl rfl rfl rfl) (op_eqi rfl (H80.ev rfl) (ev_c _ _)) fun _ H82 => ?_
 clear H76 H78 H80
 have H83 := H82.lit (b := true) (by decide)
 clear H82
 refine V H83 (op_pick_t rfl (H83.ev rfl) (H83.ev rfl)) fun _ H85 => ?_
 refine Vm H85 fun _ H87 => ?_
 refine V2 H87 (want_yes H87 rfl rfl rfl rfl) (op_loadn gwagg24 gwsiz24 rfl (H87.ev rfl) (O66.get 0 rfl) rfl rfl) fun _ H89 => ?_
 clear H83 H85 H87
 have O103 : Own w _ [(Chunk.all [Bk g57 [.string (⟨#[115]⟩ : ByteArray), .string (⟨#[98]⟩ : ByteArray), .slice A33 firstL.length c34] 24, Chunk.frz wz7 S8]), Chunk.frz wz35 S36] := Own.bundle (O66.sel [0, 1, 2] (by decide))
 refine gw_call H89 (want_yes H89 rfl rfl rfl rfl) rfl (by decide) (op_callL Tryd.func11 (by kernel_rfl) rfl rfl (ar_cons (H89.ev rfl) ar_nil)) (of_frz w _ wz35 (Chunk.all [Bk g57 [.string (⟨#[115]⟩ : ByteArray), .string (⟨#[98]⟩ : ByteArray), .slice A33 firstL.length c34] 24, Chunk.frz wz7 S8]) S36 A33 c34 (⟨#[115]⟩ : ByteArray) (⟨#[98]⟩ : ByteArray) firstL firstL_sz hbz37 hFz38 hlz39 O103) ?_
 rintro e97 w98 ⟨A90, c91, wz92, S93, rfl, hb99, hbz94, hFz38, hFz95, hlz96⟩
 refine ⟨_, rfl, fun _ H101 => ?_⟩
 have O102 : Own w w98 [Bk g57 [.string (⟨#[115]⟩ : ByteArray), .string (⟨#[98]⟩ : ByteArray), .slice A33 firstL.length c34] 24, Chunk.frz wz7 S8, Chunk.frz wz92 S93] := Own.unbundle (hb99.sel [0, 1] (by decide))
 clear O103
 clear H89 O66 hb99
 have O119 : Own w _ [(Chunk.all [Bk g57 [.string (⟨#[115]⟩ : ByteArray), .string (⟨#[98]⟩ : ByteArray), .slice A33 firstL.length c34] 24, Chunk.frz wz7 S8, Chunk.frz wz92 S93])] := Own.bundle (O102.sel [0, 1, 2] (by decide))
 refine gw_call H101 (want_yes H101 rfl rfl rfl rfl) rfl (by decide) (op_callL Tryd.func21 (by kernel_rfl) rfl rfl ar_nil) (first_frz w _ (Chunk.all [Bk g57 [.string (⟨#[115]⟩ : ByteArray), .string (⟨#[98]⟩ : ByteArray), .slice A33 firstL.length c34] 24, Chunk.frz wz7 S8, Chunk.frz wz92 S93]) O119) ?_
 rintro e113 w114 ⟨A105, c106, wz107, S108, rfl, hb115, hbz109, hFz110, hlz111⟩
 refine ⟨_, rfl, fun _ H117 => ?_⟩
 have O118 : Own w w114 [Bk g57 [.string (⟨#[115]⟩ : ByteArray), .string (⟨#[98]⟩ : ByteArray), .slice A33 firstL.length c34] 24, Chunk.frz wz7 S8, Chunk.frz wz92 S93, Chunk.frz wz107 S108] := Own.unbundle (hb115.sel [1, 0] (by decide))
 clear O119
 clear H101 O102 hb115
 have O134 : Own w _ [(Chunk.all [Bk g57 [.string (⟨#[115]⟩ : ByteArray), .string (⟨#[98]⟩ : ByteArray), .slice A33 firstL.length c34] 24, Chunk.frz wz7 S8, Chunk.frz wz92 S93]), Chunk.frz wz107 S108] := Own.bundle (O118.sel [0, 1, 2, 3] (by decide))
 refine gw_call H117 (want_yes H117 rfl rfl rfl rfl) rfl (by decide) (op_callL Tryd.func11 (by kernel_rfl) rfl rfl (ar_cons (H117.ev rfl) ar_nil)) (of_frz w _ wz107 (Chunk.all [Bk g57 [.string (⟨#[115]⟩ : ByteArray), .string (⟨#[98]⟩ : ByteArray), .slice A33 firstL.length c34] 24, Chunk.frz wz7 S8, Chunk.frz wz92 S93]) S108 A105 c106 (⟨#[115]⟩ : ByteArray) (⟨#[98]⟩ : ByteArray) firstL firstL_sz hbz109 hFz110 hlz111 O134) ?_
 rintro e128 w129 ⟨A121, c122, wz123, S124, rfl, hb130, hbz125, hFz110, hFz126, hlz127⟩
 refine ⟨_, rfl, fun _ H132 => ?_⟩
 have O133 : Own w w129 [Bk g57 [.string (⟨#[115]⟩ : ByteArray), .string (⟨#[98]⟩ : ByteArray), .slice A33 firstL.length c34] 24, Chunk.frz wz7 S8, Chunk.frz wz92 S93, Chunk.frz wz123 S124] := Own.unbundle (hb130.sel [0, 1] (by decide))
 clear O134
 clear H117 O118 hb130
 refine gw_call H132 (want_yes H132 rfl rfl rfl rfl) rfl (by decide) (op_callL Tryd.func20 (by kernel_rfl) rfl rfl (ar_cons (H132.ev rfl) (ar_cons (H132.ev rfl) ar_nil))) (same_calls A90 A121 c91 c122 (⟨#[115]⟩ : ByteArray) (⟨#[98]⟩ : ByteArray) firstL _ firstL_sz (frz_C (i := 2) O133 rfl hbz94 hFz95) hlz96 (frz_C (i := 3) O133 rfl hbz125 hFz126) hlz127) ?_
 rintro e136 w137 ⟨rfl, hb138⟩
 refine ⟨_, rfl, fun _ H140 => ?_⟩
 have O141 := O133.after hb138
 clear H132 O133 hb138
 refine V H140 (op_pick_t rfl (H140.ev rfl) (H140.ev rfl)) fun _ H144 => ?_
 refine Vm H144 fun _ H146 => ?_
 refine V2 H146 (want_yes H146 rfl rfl rfl rfl) (op_loadn gwagg24 gwsiz24 rfl (H146.ev rfl) (O141.get 0 rfl) rfl rfl) fun _ H148 => ?_
 clear H140 H144 H146
 refine gw_call H148 (want_yes H148 rfl rfl rfl rfl) rfl (by decide) (op_callL Tryd.func12 (by kernel_rfl) rfl rfl (ar_cons (H148.ev rfl) ar_nil)) (totals_calls (⟨#[115]⟩ : ByteArray) (⟨#[98]⟩ : ByteArray) A33 c34 firstL _ (frz_C (i := 2) O141 rfl hbz94 hFz38) hlz39 (by decide : sumL firstL ≤ 1000000000)) ?_
 rintro e149 w150 ⟨rfl, hb151⟩
 refine ⟨_, rfl, fun _ H153 => ?_⟩
 have O154 := O141.after hb151
 clear H148 O141 hb151
 refine V2 H153 (want_yes H153 rfl rfl rfl rfl) (op_aidx Tryd.underlying31 gwsiz3 gwagg3 rfl (H153.ev rfl) (ev_c _ _) (by decide) rfl) fun _ H157 => ?_
 refine V2 H157 (want_yes H157 rfl rfl rfl rfl) (op_eqi rfl (H157.ev rfl) (ev_c _ _)) fun _ H159 => ?_
 clear H153 H157
 have H160 := H159.lit (b := true) (by decide)
 clear H159
 refine V H160 (op_pick_t rfl (H160.ev rfl) (H160.ev rfl)) fun _ H162 => ?_
 refine Vm H162 fun _ H164 => ?_
 refine V2 H164 (want_yes H164 rfl rfl rfl rfl) (op_loadn gwagg24 gwsiz24 rfl (H164.ev rfl) (O154.get 0 rfl) rfl rfl) fun _ H166 => ?_
 clear H160 H162 H164
 refine gw_call H166 (want_yes H166 rfl rfl rfl rfl) rfl (by decide) (op_callL Tryd.func14 (by kernel_rfl) rfl rfl (ar_cons (H166.ev rfl) ar_nil)) (right_calls A33 c34 (⟨#[115]⟩ : ByteArray) (⟨#[98]⟩ : ByteArray) firstL _ firstL_sz (frz_C (i := 2) O154 rfl hbz94 hFz38) hlz39) ?_
 rintro e167 w168 ⟨rfl, hb169⟩
 refine ⟨_, rfl, fun _ H171 => ?_⟩
 have O172 := O154.after hb169
 clear H166 O154 hb169
 have H174 := H171.lit (b := true) (by exact right_one)
 clear H171
 refine V H174 (op_pick_t rfl (H174.ev rfl) (H174.ev rfl)) fun _ H176 => ?_
 refine Va H176 fun _ H178 => ?_
 refine gE hK71 ?_
 refine wp_ret ?_
 clear H174 H176
 refine gw_ret1 H178 rfl rfl ?_
 exact ⟨rfl, O172.below⟩
end GAlive_
export GAlive_ (alive_walk)
end Go.Proofs.YtljmbgilcngfgaaDoor.PA
