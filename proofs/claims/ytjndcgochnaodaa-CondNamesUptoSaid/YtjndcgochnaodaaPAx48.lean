/- A Go function of the translation as a plain Lean function, with the proof that the call answers just so. Printed by a program of this session; Lean checks it. -/
import Derived.Test.YtjndcgochnaodaaPAx0
import Derived.Test.YtjndcgochnaodaaPAx47
namespace Go.Proofs.Ytjndcgochnaodaa.PA
open Go.RowKit Go.Proofs.YtjndcgochnaodaaW.PrintWords Go.Proofs.YtjndcgochnaodaaW.PrintLast Go.Proofs.YtjndcgochnaodaaW.PrintMore
attribute [local go_sem] max2_int min2_int max_two min_two max_three min_three max_four min_four   -- for this text's walks alone
set_option linter.unusedVariables false
set_option linter.unusedSimpArgs false

/-! ### colloquyref12_Right: function 10 -/
mutual
def colloquyref12_Right.j2 : Nat → Int → Int → ByteArray → ByteArray → List (S24) → Option (Bool)
  | 0, _, _, _, _, _ => none
  | k + 1, x1, x289000, x289001, x289002, x289003 => colloquyref12_Right.l0 k x1 0 x289000 x289001 x289002 x289003
def colloquyref12_Right.l0 : Nat → Int → Int → Int → ByteArray → ByteArray → List (S24) → Option (Bool)
  | 0, _, _, _, _, _, _ => none
  | k + 1, x1, x5, x289000, x289001, x289002, x289003 => if x5 < (x289003.length : Int) then (if 0 ≤ x5 then ((colloquyref12_Right.f k ((rd_T24 x289003 x5).f0) ((rd_T24 x289003 x5).f1) ((rd_T24 x289003 x5).f2) ((rd_T24 x289003 x5).f3) (wrap64 (x1 - 1))).bind fun t291 => (if t291 = true then (colloquyref12_Right.l0 k x1 (wrap64 (x5 + 1)) x289000 x289001 x289002 x289003) else (some false))) else (none)) else (if x289001.toList = ([] : List UInt8) then (some (x289002.toList == ([] : List UInt8))) else (some false))
def colloquyref12_Right.j0 : Nat → Int → Int → Bool → Int → ByteArray → ByteArray → List (S24) → Option (Bool)
  | 0, _, _, _, _, _, _, _ => none
  | k + 1, x1, x9, x10, x289000, x289001, x289002, x289003 => if x10 = true then (if (x289003.length : Int) = 0 then ((colloquyref02_Word.f k x289001).bind fun t289 => (some t289)) else (some false)) else (if x9 = 3 then (if (x289003.length : Int) = 1 then (colloquyref12_Right.j2 k x1 x289000 x289001 x289002 x289003) else (some false)) else (if x9 = 4 then (colloquyref12_Right.j1 k x1 (x9 == 4) x289000 x289001 x289002 x289003) else (colloquyref12_Right.j1 k x1 (x9 == 5) x289000 x289001 x289002 x289003)))
def colloquyref12_Right.j1 : Nat → Int → Bool → Int → ByteArray → ByteArray → List (S24) → Option (Bool)
  | 0, _, _, _, _, _, _ => none
  | k + 1, x1, x28, x289000, x289001, x289002, x289003 => if x28 = true then (if (x289003.length : Int) < 2 then (some false) else (colloquyref12_Right.j2 k x1 x289000 x289001 x289002 x289003)) else (some false)
def colloquyref12_Right.f : Nat → Int → ByteArray → ByteArray → List (S24) → Int → Option (Bool)
  | 0, _, _, _, _, _ => none
  | k + 1, a0_0, a0_1, a0_2, l0_3, a1 => if a1 < 1 then (some false) else (if a0_0 = 1 then (colloquyref12_Right.j0 k a1 a0_0 (a0_0 == 1) a0_0 a0_1 a0_2 l0_3) else (colloquyref12_Right.j0 k a1 a0_0 (a0_0 == 2) a0_0 a0_1 a0_2 l0_3))
end
theorem colloquyref12_Right.mono_l : ∀ k, (∀ y0 y1 y2 y3 y4, LeO (colloquyref12_Right.f k y0 y1 y2 y3 y4) (colloquyref12_Right.f (k + 1) y0 y1 y2 y3 y4)) ∧ (∀ y0 y1 y2 y3 y4, LeO (colloquyref12_Right.j2 k y0 y1 y2 y3 y4) (colloquyref12_Right.j2 (k + 1) y0 y1 y2 y3 y4)) ∧ (∀ y0 y1 y2 y3 y4 y5, LeO (colloquyref12_Right.l0 k y0 y1 y2 y3 y4 y5) (colloquyref12_Right.l0 (k + 1) y0 y1 y2 y3 y4 y5)) ∧ (∀ y0 y1 y2 y3 y4 y5 y6, LeO (colloquyref12_Right.j0 k y0 y1 y2 y3 y4 y5 y6) (colloquyref12_Right.j0 (k + 1) y0 y1 y2 y3 y4 y5 y6)) ∧ (∀ y0 y1 y2 y3 y4 y5, LeO (colloquyref12_Right.j1 k y0 y1 y2 y3 y4 y5) (colloquyref12_Right.j1 (k + 1) y0 y1 y2 y3 y4 y5))
  | 0 => ⟨fun _ _ _ _ _ r h => by simp [colloquyref12_Right.f] at h, fun _ _ _ _ _ r h => by simp [colloquyref12_Right.j2] at h, fun _ _ _ _ _ _ r h => by simp [colloquyref12_Right.l0] at h, fun _ _ _ _ _ _ _ r h => by simp [colloquyref12_Right.j0] at h, fun _ _ _ _ _ _ r h => by simp [colloquyref12_Right.j1] at h⟩
  | k + 1 => by
    obtain ⟨ih0, ih1, ih2, ih3, ih4⟩ := colloquyref12_Right.mono_l k
    refine ⟨?_, ?_, ?_, ?_, ?_⟩
    · intro y0 y1 y2 y3 y4
      unfold colloquyref12_Right.f
      repeat' first
      | (with_reducible exact ih0 _ _ _ _ _)
      | (with_reducible exact ih1 _ _ _ _ _)
      | (with_reducible exact ih2 _ _ _ _ _ _)
      | (with_reducible exact ih3 _ _ _ _ _ _ _)
      | (with_reducible exact ih4 _ _ _ _ _ _)
      | (with_reducible exact colloquyref02_Word.mono _ _)
      | (with_reducible exact LeO.refl _)
      | (with_reducible exact LeO.none _)
      | (with_reducible refine LeO.ite ?_ ?_)
      | (with_reducible refine LeO.bind ?_ (fun _ => ?_))
      | exact ih0 _ _ _ _ _
      | exact ih1 _ _ _ _ _
      | exact ih2 _ _ _ _ _ _
      | exact ih3 _ _ _ _ _ _ _
      | exact ih4 _ _ _ _ _ _
      | exact colloquyref02_Word.mono _ _
      | exact LeO.none _
      | refine LeO.ite ?_ ?_
      | refine LeO.bind ?_ (fun _ => ?_)
    · intro y0 y1 y2 y3 y4
      unfold colloquyref12_Right.j2
      repeat' first
      | (with_reducible exact ih0 _ _ _ _ _)
      | (with_reducible exact ih1 _ _ _ _ _)
      | (with_reducible exact ih2 _ _ _ _ _ _)
      | (with_reducible exact ih3 _ _ _ _ _ _ _)
      | (with_reducible exact ih4 _ _ _ _ _ _)
      | (with_reducible exact colloquyref02_Word.mono _ _)
      | (with_reducible exact LeO.refl _)
      | (with_reducible exact LeO.none _)
      | (with_reducible refine LeO.ite ?_ ?_)
      | (with_reducible refine LeO.bind ?_ (fun _ => ?_))
      | exact ih0 _ _ _ _ _
      | exact ih1 _ _ _ _ _
      | exact ih2 _ _ _ _ _ _
      | exact ih3 _ _ _ _ _ _ _
      | exact ih4 _ _ _ _ _ _
      | exact colloquyref02_Word.mono _ _
      | exact LeO.none _
      | refine LeO.ite ?_ ?_
      | refine LeO.bind ?_ (fun _ => ?_)
    · intro y0 y1 y2 y3 y4 y5
      unfold colloquyref12_Right.l0
      repeat' first
      | (with_reducible exact ih0 _ _ _ _ _)
      | (with_reducible exact ih1 _ _ _ _ _)
      | (with_reducible exact ih2 _ _ _ _ _ _)
      | (with_reducible exact ih3 _ _ _ _ _ _ _)
      | (with_reducible exact ih4 _ _ _ _ _ _)
      | (with_reducible exact colloquyref02_Word.mono _ _)
      | (with_reducible exact LeO.refl _)
      | (with_reducible exact LeO.none _)
      | (with_reducible refine LeO.ite ?_ ?_)
      | (with_reducible refine LeO.bind ?_ (fun _ => ?_))
      | exact ih0 _ _ _ _ _
      | exact ih1 _ _ _ _ _
      | exact ih2 _ _ _ _ _ _
      | exact ih3 _ _ _ _ _ _ _
      | exact ih4 _ _ _ _ _ _
      | exact colloquyref02_Word.mono _ _
      | exact LeO.none _
      | refine LeO.ite ?_ ?_
      | refine LeO.bind ?_ (fun _ => ?_)
    · intro y0 y1 y2 y3 y4 y5 y6
      unfold colloquyref12_Right.j0
      repeat' first
      | (with_reducible exact ih0 _ _ _ _ _)
      | (with_reducible exact ih1 _ _ _ _ _)
      | (with_reducible exact ih2 _ _ _ _ _ _)
      | (with_reducible exact ih3 _ _ _ _ _ _ _)
      | (with_reducible exact ih4 _ _ _ _ _ _)
      | (with_reducible exact colloquyref02_Word.mono _ _)
      | (with_reducible exact LeO.refl _)
      | (with_reducible exact LeO.none _)
      | (with_reducible refine LeO.ite ?_ ?_)
      | (with_reducible refine LeO.bind ?_ (fun _ => ?_))
      | exact ih0 _ _ _ _ _
      | exact ih1 _ _ _ _ _
      | exact ih2 _ _ _ _ _ _
      | exact ih3 _ _ _ _ _ _ _
      | exact ih4 _ _ _ _ _ _
      | exact colloquyref02_Word.mono _ _
      | exact LeO.none _
      | refine LeO.ite ?_ ?_
      | refine LeO.bind ?_ (fun _ => ?_)
    · intro y0 y1 y2 y3 y4 y5
      unfold colloquyref12_Right.j1
      repeat' first
      | (with_reducible exact ih0 _ _ _ _ _)
      | (with_reducible exact ih1 _ _ _ _ _)
      | (with_reducible exact ih2 _ _ _ _ _ _)
      | (with_reducible exact ih3 _ _ _ _ _ _ _)
      | (with_reducible exact ih4 _ _ _ _ _ _)
      | (with_reducible exact colloquyref02_Word.mono _ _)
      | (with_reducible exact LeO.refl _)
      | (with_reducible exact LeO.none _)
      | (with_reducible refine LeO.ite ?_ ?_)
      | (with_reducible refine LeO.bind ?_ (fun _ => ?_))
      | exact ih0 _ _ _ _ _
      | exact ih1 _ _ _ _ _
      | exact ih2 _ _ _ _ _ _
      | exact ih3 _ _ _ _ _ _ _
      | exact ih4 _ _ _ _ _ _
      | exact colloquyref02_Word.mono _ _
      | exact LeO.none _
      | refine LeO.ite ?_ ?_
      | refine LeO.bind ?_ (fun _ => ?_)
theorem colloquyref12_Right.mono : ∀ a0 a1 a2 a3 a4 k, LeO (colloquyref12_Right.f k a0 a1 a2 a3 a4) (colloquyref12_Right.f (k + 1) a0 a1 a2 a3 a4) := by
  intro a0 a1 a2 a3 a4 k
  obtain ⟨ih0, ih1, ih2, ih3, ih4⟩ := colloquyref12_Right.mono_l k
  exact ih0 a0 a1 a2 a3 a4
set_option maxHeartbeats 8000000 in
set_option maxRecDepth 100000 in
theorem colloquyref12_Right.calls (k : Nat) : ∀ (a0_0 : Int) (a0_1 : ByteArray) (a0_2 : ByteArray) (A0_3 : Option Addr) (c0_3 : Nat) (l0_3 : List (S24)) (a1 : Int) (r : Bool) (w : World) (hr0_3 : Kd.C k24 w A0_3 l0_3.length l0_3) (hc0_3 : l0_3.length ≤ c0_3) (h : colloquyref12_Right.f k a0_0 a0_1 a0_2 l0_3 a1 = some r),
    Calls Try.prog 10 #[.agg #[.int .i64 a0_0, .string a0_1, .string a0_2, .slice A0_3 l0_3.length c0_3], .int .i64 a1] w fun e w' => e = .returned (.bool r) ∧ Below w.heap.size w w' := by
  induction k using Nat.strongRecOn with
  | _ k ih =>
  intro a0_0 a0_1 a0_2 A0_3 c0_3 l0_3 a1 r w hr0_3 hc0_3 h
  cases k with
  | zero => exact absurd h (by simp [colloquyref12_Right.f])
  | succ k =>
  simp only [colloquyref12_Right.f] at h
  have hu24 := Try.underlying24
  have HR0_3 := Aside0.mk hr0_3
  have HC0_3 := Aside0.mk hc0_3
  clear hr0_3 hc0_3
  have HB := Aside0.mk (Below.refl w.heap.size w)
  have H : (if a1 < 1 then (some false) else (if a0_0 = 1 then (colloquyref12_Right.j0 k a1 a0_0 (a0_0 == 1) a0_0 a0_1 a0_2 l0_3) else (colloquyref12_Right.j0 k a1 a0_0 (a0_0 == 2) a0_0 a0_1 a0_2 l0_3))) = some r := h
  clear h
  by_cases c3 : a1 < 1
  · rw [if_pos c3] at H
    have c3b0 : decide (a1 < 1) = true := decide_eq_true c3
    clear c3
    obtain rfl := Option.some.inj H
    go_enter Try.func10, Try.ntmps10
    go_wp2_with (first | ((with_reducible refine gate_dst (N := 2) rfl ?_); refine box_event ?hg (N := 2) ?hd (cs := #[.int .i64 a0_0, .string a0_1, .string a0_2, .slice A0_3 l0_3.length c0_3]) (t := 24) ?hr ?_; (case hd => rfl); (case hg => rfl); (case hr => first | (go_simp; done) | (go_simp; rfl)); intro gb288 hg w4 hbox hb; have n0_ := Aside0.mk (below_step (by repeat (first | (with_reducible first | exact HB.out | apply below_alloc | apply pw_below_drewN | apply below_drew1) | exact HB.out)) hb); have n1_ := Aside0.mk (hbox); have n2_ := Aside0.mk ((by rw [hg]; exact (below_size (by repeat (first | (with_reducible first | exact HB.out | apply below_alloc | apply pw_below_drewN | apply below_drew1) | exact HB.out))) : w.heap.size ≤ gb288)); have n3_ := Aside0.mk ((by rw [hg]; exact (below_size (by repeat (first | (with_reducible first | exact HB.out | apply below_alloc | apply pw_below_drewN | apply below_drew1) | exact HB.out))) : w.heap.size ≤ gb288)); clear HB; have HB := n0_; have BK288 := n1_; have GW288 := n2_; have GE288 := n3_; clear n0_ n1_ n2_ n3_; clear hb hbox hg))
    go_ret
    exact ⟨by first | rfl | (simp [errW_none, errW_some] <;> rfl) | (simp [*, errW_none, errW_some] <;> rfl), by repeat (first | (with_reducible first | exact HB.out | apply below_alloc | apply pw_below_drewN | apply below_drew1 | refine below_set ?_ GE288.out) | exact HB.out)⟩
  · rw [if_neg c3] at H
    have c3b0 : decide (a1 < 1) = false := decide_eq_false c3
    clear c3
    have HC5 := Aside0.mk H
    clear H
    go_enter Try.func10, Try.ntmps10
    go_upto_block 0 with (first | ((with_reducible refine gate_dst (N := 2) rfl ?_); refine box_event ?hg (N := 2) ?hd (cs := #[.int .i64 a0_0, .string a0_1, .string a0_2, .slice A0_3 l0_3.length c0_3]) (t := 24) ?hr ?_; (case hd => rfl); (case hg => rfl); (case hr => first | (go_simp; done) | (go_simp; rfl)); intro gb288 hg w6 hbox hb; have n0_ := Aside0.mk (below_step (by repeat (first | (with_reducible first | exact HB.out | apply below_alloc | apply pw_below_drewN | apply below_drew1) | exact HB.out)) hb); have n1_ := Aside0.mk (hbox); have n2_ := Aside0.mk ((by rw [hg]; exact (below_size (by repeat (first | (with_reducible first | exact HB.out | apply below_alloc | apply pw_below_drewN | apply below_drew1) | exact HB.out))) : w.heap.size ≤ gb288)); have n3_ := Aside0.mk ((by rw [hg]; exact (below_size (by repeat (first | (with_reducible first | exact HB.out | apply below_alloc | apply pw_below_drewN | apply below_drew1) | exact HB.out))) : w.heap.size ≤ gb288)); clear HB; have HB := n0_; have BK288 := n1_; have GW288 := n2_; have GE288 := n3_; clear n0_ n1_ n2_ n3_; clear hb hbox hg; have hcz7_0 : w6.cell? ⟨gb288, 0, none⟩ = some (.int .i64 a0_0) := (blk_cell BK288.out 0).trans rfl; have hcz7_1 : w6.cell? ⟨gb288, 1, none⟩ = some (.string a0_1) := (blk_cell BK288.out 1).trans rfl; have hcz7_2 : w6.cell? ⟨gb288, 2, none⟩ = some (.string a0_2) := (blk_cell BK288.out 2).trans rfl; have hcz7_3 : w6.cell? ⟨gb288, 3, none⟩ = some (.slice A0_3 l0_3.length c0_3) := (blk_cell BK288.out 3).trans rfl; have hfz7_0 := blk_frozen BK288.out 0; have hfz7_1 := blk_frozen BK288.out 1; have hfz7_2 := blk_frozen BK288.out 2; have hfz7_3 := blk_frozen BK288.out 3))
    (try simp only [Act.put, List.setIfInBounds_toArray, List.set_cons_zero, List.set_cons_succ])
    go_cut [] (fun wc => ∃ (kq : Nat), Aside0 (colloquyref12_Right.j2 kq a1 a0_0 a0_1 a0_2 l0_3 = some r) ∧ Aside0 (kq ≤ k) ∧ Aside0 (wc.heap[gb288]? = some (.cells #[.int .i64 a0_0, .string a0_1, .string a0_2, (.slice A0_3 l0_3.length c0_3)] 24 (0, 0))) ∧ Aside0 (Below w.heap.size w wc))
    case first =>
      have H := HC5.out
      clear HC5
      have HC8 := Aside0.mk H
      clear H
      go_upto_if 10 with (fail)
      go_cut [10] (fun v10 wc => ∃ (kq : Nat) (x10_7 : Bool), v10 = .bool x10_7 ∧ Aside0 (colloquyref12_Right.j0 kq a1 a0_0 x10_7 a0_0 a0_1 a0_2 l0_3 = some r) ∧ Aside0 (kq ≤ k) ∧ Aside0 (wc.heap[gb288]? = some (.cells #[.int .i64 a0_0, .string a0_1, .string a0_2, (.slice A0_3 l0_3.length c0_3)] 24 (0, 0))) ∧ Aside0 (Below w.heap.size w wc))
      case first =>
        have H := HC8.out
        clear HC8
        by_cases c9 : a0_0 = 1
        · rw [if_pos c9] at H
          have c9b0 : (a0_0 == 1) = true := beq_iff_eq.mpr c9
          have c9b1 : (a0_0 != 1) = false := bne_eq_false_iff_eq.mpr c9
          clear c9
          (first | rw [c9b0] | rw [c9b1] | (simp only [i64_w, i32_w]; rw [c9b0]) | skip)
          have H' := Aside0.mk H
          clear H
          go_wp2
          go_meet
          case rel => exact ⟨_, ((a0_0 == 1)), (by first | rfl | (simp; done) | (simp [*]; done)), H', ⟨by first | omega | exact Nat.le_refl _⟩, ⟨by (with_reducible repeat (first | refine blk_drewN ?_ _ | refine blk_drew ?_ | refine blk_alloc ?_ _)); exact BK288.out⟩, ⟨by repeat (first | (with_reducible first | exact HB.out | apply below_alloc | apply pw_below_drewN | apply below_drew1 | refine below_set ?_ GE288.out) | exact HB.out)⟩⟩
        · rw [if_neg c9] at H
          have c9b0 : (a0_0 == 1) = false := beq_eq_false_iff_ne.mpr c9
          have c9b1 : (a0_0 != 1) = true := bne_iff_ne.mpr c9
          (first | rw [c9b0] | rw [c9b1] | (simp only [i64_w, i32_w]; rw [c9b0]) | skip)
          have H' := Aside0.mk H
          clear H
          go_wp2
          go_meet
          case rel => exact ⟨_, ((a0_0 == 2)), (by first | rfl | (simp; done) | (simp [*]; done)), H', ⟨by first | omega | exact Nat.le_refl _⟩, ⟨by (with_reducible repeat (first | refine blk_drewN ?_ _ | refine blk_drew ?_ | refine blk_alloc ?_ _)); exact BK288.out⟩, ⟨by repeat (first | (with_reducible first | exact HB.out | apply below_alloc | apply pw_below_drewN | apply below_drew1 | refine below_set ?_ GE288.out) | exact HB.out)⟩⟩
      case rest =>
        clear HC8
        try clear c1
        try clear p2
        try clear c3
        try clear c3b0
        try clear c9
        try clear c9b0
        try clear c9b1
        try clear hcz7_0
        try clear hcz7_1
        try clear hcz7_2
        try clear hcz7_3
        try clear hfz7_0
        try clear hfz7_1
        try clear hfz7_2
        try clear hfz7_3
        obtain ⟨kq, x10_7, rfl, HA, HJ7, BK288, HB⟩ := hcut
        cases kq with
        | zero => exact absurd HA.out (by simp [colloquyref12_Right.j0])
        | succ kj7 =>
          have H := HA.out
          clear HA
          simp only [colloquyref12_Right.j0] at H
          by_cases c10 : x10_7 = true
          · subst c10
            have H1 : (if (l0_3.length : Int) = 0 then ((colloquyref02_Word.f kj7 a0_1).bind fun t289 => (some t289)) else (some false)) = some r := by rw [if_pos rfl] at H; exact H
            clear H
            have H := H1
            clear H1
            by_cases c11 : (l0_3.length : Int) = 0
            · rw [if_pos c11] at H
              have c11b0 : ((l0_3.length : Int) == 0) = true := beq_iff_eq.mpr c11
              have c11b1 : ((l0_3.length : Int) != 0) = false := bne_eq_false_iff_eq.mpr c11
              clear c11
              replace H := Option.bind_eq_some_iff.mp H
              obtain ⟨t289, A120, H⟩ := H
              replace H : (some t289) = some r := H
              have A12 := Aside0.mk A120
              clear A120
              obtain rfl := Option.some.inj H
              have hcz13_0 : wc.cell? ⟨gb288, 0, none⟩ = some (.int .i64 a0_0) := (blk_cell BK288.out 0).trans rfl
              have hcz13_1 : wc.cell? ⟨gb288, 1, none⟩ = some (.string a0_1) := (blk_cell BK288.out 1).trans rfl
              have hcz13_2 : wc.cell? ⟨gb288, 2, none⟩ = some (.string a0_2) := (blk_cell BK288.out 2).trans rfl
              have hcz13_3 : wc.cell? ⟨gb288, 3, none⟩ = some (.slice A0_3 l0_3.length c0_3) := (blk_cell BK288.out 3).trans rfl
              have hfz13_0 := blk_frozen BK288.out 0
              have hfz13_1 := blk_frozen BK288.out 1
              have hfz13_2 := blk_frozen BK288.out 2
              have hfz13_3 := blk_frozen BK288.out 3
              go_wp2_with (first | (go_at_call 25; (with_reducible refine (colloquyref02_Word.calls kj7 a0_1 t289 _ A12.out).mono ?_); rintro e w' ⟨rfl, ⟨nd, rfl⟩⟩))
              go_ret
              exact ⟨by first | rfl | (simp [errW_none, errW_some] <;> rfl) | (simp [*, errW_none, errW_some] <;> rfl), by repeat (first | (with_reducible first | exact HB.out | apply below_alloc | apply pw_below_drewN | apply below_drew1 | refine below_set ?_ GE288.out) | exact HB.out)⟩
            · rw [if_neg c11] at H
              have c11b0 : ((l0_3.length : Int) == 0) = false := beq_eq_false_iff_ne.mpr c11
              have c11b1 : ((l0_3.length : Int) != 0) = true := bne_iff_ne.mpr c11
              have c11b2 : ¬ (l0_3 = []) := fun h_ => c11 (by rw [h_]; rfl)
              obtain rfl := Option.some.inj H
              have hcz14_0 : wc.cell? ⟨gb288, 0, none⟩ = some (.int .i64 a0_0) := (blk_cell BK288.out 0).trans rfl
              have hcz14_1 : wc.cell? ⟨gb288, 1, none⟩ = some (.string a0_1) := (blk_cell BK288.out 1).trans rfl
              have hcz14_2 : wc.cell? ⟨gb288, 2, none⟩ = some (.string a0_2) := (blk_cell BK288.out 2).trans rfl
              have hcz14_3 : wc.cell? ⟨gb288, 3, none⟩ = some (.slice A0_3 l0_3.length c0_3) := (blk_cell BK288.out 3).trans rfl
              have hfz14_0 := blk_frozen BK288.out 0
              have hfz14_1 := blk_frozen BK288.out 1
              have hfz14_2 := blk_frozen BK288.out 2
              have hfz14_3 := blk_frozen BK288.out 3
              go_wp2
              go_ret
              exact ⟨by first | rfl | (simp [errW_none, errW_some] <;> rfl) | (simp [*, errW_none, errW_some] <;> rfl), by repeat (first | (with_reducible first | exact HB.out | apply below_alloc | apply pw_below_drewN | apply below_drew1 | refine below_set ?_ GE288.out) | exact HB.out)⟩
          · replace c10 := Bool.eq_false_iff.mpr c10
            subst c10
            have H1 : (if a0_0 = 3 then (if (l0_3.length : Int) = 1 then (colloquyref12_Right.j2 kj7 a1 a0_0 a0_1 a0_2 l0_3) else (some false)) else (if a0_0 = 4 then (colloquyref12_Right.j1 kj7 a1 (a0_0 == 4) a0_0 a0_1 a0_2 l0_3) else (colloquyref12_Right.j1 kj7 a1 (a0_0 == 5) a0_0 a0_1 a0_2 l0_3))) = some r := by rw [if_neg (show ¬ (false = true) by decide)] at H; exact H
            clear H
            have H := H1
            clear H1
            by_cases c15 : a0_0 = 3
            · rw [if_pos c15] at H
              have c15b0 : (a0_0 == 3) = true := beq_iff_eq.mpr c15
              have c15b1 : (a0_0 != 3) = false := bne_eq_false_iff_eq.mpr c15
              clear c15
              by_cases c16 : (l0_3.length : Int) = 1
              · rw [if_pos c16] at H
                have c16b0 : ((l0_3.length : Int) == 1) = true := beq_iff_eq.mpr c16
                have c16b1 : ((l0_3.length : Int) != 1) = false := bne_eq_false_iff_eq.mpr c16
                clear c16
                have H' := Aside0.mk H
                clear H
                have hcz17_0 : wc.cell? ⟨gb288, 0, none⟩ = some (.int .i64 a0_0) := (blk_cell BK288.out 0).trans rfl
                have hcz17_1 : wc.cell? ⟨gb288, 1, none⟩ = some (.string a0_1) := (blk_cell BK288.out 1).trans rfl
                have hcz17_2 : wc.cell? ⟨gb288, 2, none⟩ = some (.string a0_2) := (blk_cell BK288.out 2).trans rfl
                have hcz17_3 : wc.cell? ⟨gb288, 3, none⟩ = some (.slice A0_3 l0_3.length c0_3) := (blk_cell BK288.out 3).trans rfl
                have hfz17_0 := blk_frozen BK288.out 0
                have hfz17_1 := blk_frozen BK288.out 1
                have hfz17_2 := blk_frozen BK288.out 2
                have hfz17_3 := blk_frozen BK288.out 3
                go_wp2
                go_meet
                case rel => exact ⟨_, H', ⟨by have := HJ7.out; first | omega | exact Nat.le_refl _⟩, ⟨by (with_reducible repeat (first | refine blk_drewN ?_ _ | refine blk_drew ?_ | refine blk_alloc ?_ _)); exact BK288.out⟩, ⟨by repeat (first | (with_reducible first | exact HB.out | apply below_alloc | apply pw_below_drewN | apply below_drew1 | refine below_set ?_ GE288.out) | exact HB.out)⟩⟩
              · rw [if_neg c16] at H
                have c16b0 : ((l0_3.length : Int) == 1) = false := beq_eq_false_iff_ne.mpr c16
                have c16b1 : ((l0_3.length : Int) != 1) = true := bne_iff_ne.mpr c16
                obtain rfl := Option.some.inj H
                have hcz18_0 : wc.cell? ⟨gb288, 0, none⟩ = some (.int .i64 a0_0) := (blk_cell BK288.out 0).trans rfl
                have hcz18_1 : wc.cell? ⟨gb288, 1, none⟩ = some (.string a0_1) := (blk_cell BK288.out 1).trans rfl
                have hcz18_2 : wc.cell? ⟨gb288, 2, none⟩ = some (.string a0_2) := (blk_cell BK288.out 2).trans rfl
                have hcz18_3 : wc.cell? ⟨gb288, 3, none⟩ = some (.slice A0_3 l0_3.length c0_3) := (blk_cell BK288.out 3).trans rfl
                have hfz18_0 := blk_frozen BK288.out 0
                have hfz18_1 := blk_frozen BK288.out 1
                have hfz18_2 := blk_frozen BK288.out 2
                have hfz18_3 := blk_frozen BK288.out 3
                go_wp2
                go_ret
                exact ⟨by first | rfl | (simp [errW_none, errW_some] <;> rfl) | (simp [*, errW_none, errW_some] <;> rfl), by repeat (first | (with_reducible first | exact HB.out | apply below_alloc | apply pw_below_drewN | apply below_drew1 | refine below_set ?_ GE288.out) | exact HB.out)⟩
            · rw [if_neg c15] at H
              have c15b0 : (a0_0 == 3) = false := beq_eq_false_iff_ne.mpr c15
              have c15b1 : (a0_0 != 3) = true := bne_iff_ne.mpr c15
              have HC19 := Aside0.mk H
              clear H
              go_upto_if 28 with (fail)
              go_cut [28] (fun v28 wc => ∃ (kq : Nat) (x28_18 : Bool), v28 = .bool x28_18 ∧ Aside0 (colloquyref12_Right.j1 kq a1 x28_18 a0_0 a0_1 a0_2 l0_3 = some r) ∧ Aside0 (kq ≤ kj7) ∧ Aside0 (wc.heap[gb288]? = some (.cells #[.int .i64 a0_0, .string a0_1, .string a0_2, (.slice A0_3 l0_3.length c0_3)] 24 (0, 0))) ∧ Aside0 (Below w.heap.size w wc))
              case first =>
                have H := HC19.out
                clear HC19
                by_cases c20 : a0_0 = 4
                · rw [if_pos c20] at H
                  have c20b0 : (a0_0 == 4) = true := beq_iff_eq.mpr c20
                  have c20b1 : (a0_0 != 4) = false := bne_eq_false_iff_eq.mpr c20
                  clear c20
                  (first | rw [c20b0] | rw [c20b1] | (simp only [i64_w, i32_w]; rw [c20b0]) | skip)
                  have H' := Aside0.mk H
                  clear H
                  go_wp2
                  go_meet
                  case rel => exact ⟨_, ((a0_0 == 4)), (by first | rfl | (simp; done) | (simp [*]; done)), H', ⟨by have := HJ7.out; first | omega | exact Nat.le_refl _⟩, ⟨by (with_reducible repeat (first | refine blk_drewN ?_ _ | refine blk_drew ?_ | refine blk_alloc ?_ _)); exact BK288.out⟩, ⟨by repeat (first | (with_reducible first | exact HB.out | apply below_alloc | apply pw_below_drewN | apply below_drew1 | refine below_set ?_ GE288.out) | exact HB.out)⟩⟩
                · rw [if_neg c20] at H
                  have c20b0 : (a0_0 == 4) = false := beq_eq_false_iff_ne.mpr c20
                  have c20b1 : (a0_0 != 4) = true := bne_iff_ne.mpr c20
                  (first | rw [c20b0] | rw [c20b1] | (simp only [i64_w, i32_w]; rw [c20b0]) | skip)
                  have H' := Aside0.mk H
                  clear H
                  go_wp2
                  go_meet
                  case rel => exact ⟨_, ((a0_0 == 5)), (by first | rfl | (simp; done) | (simp [*]; done)), H', ⟨by have := HJ7.out; first | omega | exact Nat.le_refl _⟩, ⟨by (with_reducible repeat (first | refine blk_drewN ?_ _ | refine blk_drew ?_ | refine blk_alloc ?_ _)); exact BK288.out⟩, ⟨by repeat (first | (with_reducible first | exact HB.out | apply below_alloc | apply pw_below_drewN | apply below_drew1 | refine below_set ?_ GE288.out) | exact HB.out)⟩⟩
              case rest =>
                clear HC19
                try clear c1
                try clear c2
                try clear p2
                try clear c3
                try clear c3b0
                try clear c9
                try clear c9b0
                try clear c9b1
                try clear c10
                try clear c11
                try clear c11b0
                try clear c11b1
                try clear c11b2
                try clear c15
                try clear c15b0
                try clear c15b1
                try clear c16
                try clear c16b0
                try clear c16b1
                try clear c20
                try clear c20b0
                try clear c20b1
                try clear hcz13_0
                try clear hcz13_1
                try clear hcz13_2
                try clear hcz13_3
                try clear hcz14_0
                try clear hcz14_1
                try clear hcz14_2
                try clear hcz14_3
                try clear hcz17_0
                try clear hcz17_1
                try clear hcz17_2
                try clear hcz17_3
                try clear hcz18_0
                try clear hcz18_1
                try clear hcz18_2
                try clear hcz18_3
                try clear hcz7_0
                try clear hcz7_1
                try clear hcz7_2
                try clear hcz7_3
                try clear hfz13_0
                try clear hfz13_1
                try clear hfz13_2
                try clear hfz13_3
                try clear hfz14_0
                try clear hfz14_1
                try clear hfz14_2
                try clear hfz14_3
                try clear hfz17_0
                try clear hfz17_1
                try clear hfz17_2
                try clear hfz17_3
                try clear hfz18_0
                try clear hfz18_1
                try clear hfz18_2
                try clear hfz18_3
                try clear hfz7_0
                try clear hfz7_1
                try clear hfz7_2
                try clear hfz7_3
                try clear p2
                obtain ⟨kq, x28_18, rfl, HA, HJ18, BK288, HB⟩ := hcut
                cases kq with
                | zero => exact absurd HA.out (by simp [colloquyref12_Right.j1])
                | succ kj18 =>
                  have H := HA.out
                  clear HA
                  simp only [colloquyref12_Right.j1] at H
                  by_cases c21 : x28_18 = true
                  · subst c21
                    have H1 : (if (l0_3.length : Int) < 2 then (some false) else (colloquyref12_Right.j2 kj18 a1 a0_0 a0_1 a0_2 l0_3)) = some r := by rw [if_pos rfl] at H; exact H
                    clear H
                    have H := H1
                    clear H1
                    by_cases c22 : (l0_3.length : Int) < 2
                    · rw [if_pos c22] at H
                      have c22b0 : decide ((l0_3.length : Int) < 2) = true := decide_eq_true c22
                      have c22b1 : decide (l0_3.length < 2) = true := decide_eq_true (by omega)
                      clear c22
                      obtain rfl := Option.some.inj H
                      have hcz23_0 : wc.cell? ⟨gb288, 0, none⟩ = some (.int .i64 a0_0) := (blk_cell BK288.out 0).trans rfl
                      have hcz23_1 : wc.cell? ⟨gb288, 1, none⟩ = some (.string a0_1) := (blk_cell BK288.out 1).trans rfl
                      have hcz23_2 : wc.cell? ⟨gb288, 2, none⟩ = some (.string a0_2) := (blk_cell BK288.out 2).trans rfl
                      have hcz23_3 : wc.cell? ⟨gb288, 3, none⟩ = some (.slice A0_3 l0_3.length c0_3) := (blk_cell BK288.out 3).trans rfl
                      have hfz23_0 := blk_frozen BK288.out 0
                      have hfz23_1 := blk_frozen BK288.out 1
                      have hfz23_2 := blk_frozen BK288.out 2
                      have hfz23_3 := blk_frozen BK288.out 3
                      go_wp2
                      go_ret
                      exact ⟨by first | rfl | (simp [errW_none, errW_some] <;> rfl) | (simp [*, errW_none, errW_some] <;> rfl), by repeat (first | (with_reducible first | exact HB.out | apply below_alloc | apply pw_below_drewN | apply below_drew1 | refine below_set ?_ GE288.out) | exact HB.out)⟩
                    · rw [if_neg c22] at H
                      have c22b0 : decide ((l0_3.length : Int) < 2) = false := decide_eq_false c22
                      have c22b1 : decide (l0_3.length < 2) = false := decide_eq_false (by omega)
                      clear c22
                      have H' := Aside0.mk H
                      clear H
                      have hcz24_0 : wc.cell? ⟨gb288, 0, none⟩ = some (.int .i64 a0_0) := (blk_cell BK288.out 0).trans rfl
                      have hcz24_1 : wc.cell? ⟨gb288, 1, none⟩ = some (.string a0_1) := (blk_cell BK288.out 1).trans rfl
                      have hcz24_2 : wc.cell? ⟨gb288, 2, none⟩ = some (.string a0_2) := (blk_cell BK288.out 2).trans rfl
                      have hcz24_3 : wc.cell? ⟨gb288, 3, none⟩ = some (.slice A0_3 l0_3.length c0_3) := (blk_cell BK288.out 3).trans rfl
                      have hfz24_0 := blk_frozen BK288.out 0
                      have hfz24_1 := blk_frozen BK288.out 1
                      have hfz24_2 := blk_frozen BK288.out 2
                      have hfz24_3 := blk_frozen BK288.out 3
                      go_wp2
                      go_meet
                      case rel => exact ⟨_, H', ⟨by have := HJ7.out; have := HJ18.out; first | omega | exact Nat.le_refl _⟩, ⟨by (with_reducible repeat (first | refine blk_drewN ?_ _ | refine blk_drew ?_ | refine blk_alloc ?_ _)); exact BK288.out⟩, ⟨by repeat (first | (with_reducible first | exact HB.out | apply below_alloc | apply pw_below_drewN | apply below_drew1 | refine below_set ?_ GE288.out) | exact HB.out)⟩⟩
                  · replace c21 := Bool.eq_false_iff.mpr c21
                    subst c21
                    have H1 : (some false) = some r := by rw [if_neg (show ¬ (false = true) by decide)] at H; exact H
                    clear H
                    have H := H1
                    clear H1
                    obtain rfl := Option.some.inj H
                    go_wp2
                    go_ret
                    exact ⟨by first | rfl | (simp [errW_none, errW_some] <;> rfl) | (simp [*, errW_none, errW_some] <;> rfl), by repeat (first | (with_reducible first | exact HB.out | apply below_alloc | apply pw_below_drewN | apply below_drew1 | refine below_set ?_ GE288.out) | exact HB.out)⟩
    case rest =>
      clear HC5
      try clear c1
      try clear c2
      try clear p2
      try clear c3
      try clear c3b0
      try clear c9
      try clear c9b0
      try clear c9b1
      try clear c10
      try clear c11
      try clear c11b0
      try clear c11b1
      try clear c11b2
      try clear c15
      try clear c15b0
      try clear c15b1
      try clear c16
      try clear c16b0
      try clear c16b1
      try clear c20
      try clear c20b0
      try clear c20b1
      try clear c21
      try clear c22
      try clear c22b0
      try clear c22b1
      try clear hcz13_0
      try clear hcz13_1
      try clear hcz13_2
      try clear hcz13_3
      try clear hcz14_0
      try clear hcz14_1
      try clear hcz14_2
      try clear hcz14_3
      try clear hcz17_0
      try clear hcz17_1
      try clear hcz17_2
      try clear hcz17_3
      try clear hcz18_0
      try clear hcz18_1
      try clear hcz18_2
      try clear hcz18_3
      try clear hcz23_0
      try clear hcz23_1
      try clear hcz23_2
      try clear hcz23_3
      try clear hcz24_0
      try clear hcz24_1
      try clear hcz24_2
      try clear hcz24_3
      try clear hcz7_0
      try clear hcz7_1
      try clear hcz7_2
      try clear hcz7_3
      try clear hfz13_0
      try clear hfz13_1
      try clear hfz13_2
      try clear hfz13_3
      try clear hfz14_0
      try clear hfz14_1
      try clear hfz14_2
      try clear hfz14_3
      try clear hfz17_0
      try clear hfz17_1
      try clear hfz17_2
      try clear hfz17_3
      try clear hfz18_0
      try clear hfz18_1
      try clear hfz18_2
      try clear hfz18_3
      try clear hfz23_0
      try clear hfz23_1
      try clear hfz23_2
      try clear hfz23_3
      try clear hfz24_0
      try clear hfz24_1
      try clear hfz24_2
      try clear hfz24_3
      try clear hfz7_0
      try clear hfz7_1
      try clear hfz7_2
      try clear hfz7_3
      try clear p2
      obtain ⟨kq, HA, HJ4, BK288, HB⟩ := hcut
      cases kq with
      | zero => exact absurd HA.out (by simp [colloquyref12_Right.j2])
      | succ kj4 =>
        have H := HA.out
        clear HA
        simp only [colloquyref12_Right.j2] at H
        have H' := Aside0.mk H
        clear H
        go_wp2
        go_loopg [5] kj4 (fun kq v5 w' => ∃ (x5_2 : Int), v5 = .int .i64 x5_2 ∧ Aside0 (colloquyref12_Right.l0 kq a1 x5_2 a0_0 a0_1 a0_2 l0_3 = some r) ∧ Aside0 (kq ≤ kj4) ∧ Aside0 (w'.heap[gb288]? = some (.cells #[.int .i64 a0_0, .string a0_1, .string a0_2, (.slice A0_3 l0_3.length c0_3)] 24 (0, 0))) ∧ Aside0 (Below w.heap.size w w'))
        case atStart => exact ⟨(0), (by first | rfl | (simp; done) | (simp [*]; done)), H', ⟨Nat.le_refl _⟩, ⟨by (with_reducible repeat (first | refine blk_drewN ?_ _ | refine blk_drew ?_ | refine blk_alloc ?_ _)); exact BK288.out⟩, ⟨by repeat (first | (with_reducible first | exact HB.out | apply below_alloc | apply pw_below_drewN | apply below_drew1 | refine below_set ?_ GE288.out) | exact HB.out)⟩⟩
        case round =>
          clear H'
          try clear c1
          try clear c2
          try clear p2
          try clear c3
          try clear c3b0
          try clear c9
          try clear c9b0
          try clear c9b1
          try clear c10
          try clear c11
          try clear c11b0
          try clear c11b1
          try clear c11b2
          try clear c15
          try clear c15b0
          try clear c15b1
          try clear c16
          try clear c16b0
          try clear c16b1
          try clear c20
          try clear c20b0
          try clear c20b1
          try clear c21
          try clear c22
          try clear c22b0
          try clear c22b1
          try clear hcz13_0
          try clear hcz13_1
          try clear hcz13_2
          try clear hcz13_3
          try clear hcz14_0
          try clear hcz14_1
          try clear hcz14_2
          try clear hcz14_3
          try clear hcz17_0
          try clear hcz17_1
          try clear hcz17_2
          try clear hcz17_3
          try clear hcz18_0
          try clear hcz18_1
          try clear hcz18_2
          try clear hcz18_3
          try clear hcz23_0
          try clear hcz23_1
          try clear hcz23_2
          try clear hcz23_3
          try clear hcz24_0
          try clear hcz24_1
          try clear hcz24_2
          try clear hcz24_3
          try clear hcz7_0
          try clear hcz7_1
          try clear hcz7_2
          try clear hcz7_3
          try clear hfz13_0
          try clear hfz13_1
          try clear hfz13_2
          try clear hfz13_3
          try clear hfz14_0
          try clear hfz14_1
          try clear hfz14_2
          try clear hfz14_3
          try clear hfz17_0
          try clear hfz17_1
          try clear hfz17_2
          try clear hfz17_3
          try clear hfz18_0
          try clear hfz18_1
          try clear hfz18_2
          try clear hfz18_3
          try clear hfz23_0
          try clear hfz23_1
          try clear hfz23_2
          try clear hfz23_3
          try clear hfz24_0
          try clear hfz24_1
          try clear hfz24_2
          try clear hfz24_3
          try clear hfz7_0
          try clear hfz7_1
          try clear hfz7_2
          try clear hfz7_3
          try clear p2
          obtain ⟨x5_2, rfl, HA, HK2, BK288, HB⟩ := hrel
          cases gk with
          | zero => exact absurd HA.out (by simp [colloquyref12_Right.l0])
          | succ k2 =>
            have H := HA.out
            clear HA
            simp only [colloquyref12_Right.l0] at H
            by_cases c25 : x5_2 < (l0_3.length : Int)
            · rw [if_pos c25] at H
              have c25b0 : decide (x5_2 < (l0_3.length : Int)) = true := decide_eq_true c25
              clear c25
              by_cases c26 : 0 ≤ x5_2
              · rw [if_pos c26] at H
                have c26b0 : decide (0 ≤ x5_2) = true := decide_eq_true c26
                clear c26
                replace H := Option.bind_eq_some_iff.mp H
                obtain ⟨t291, A270, H⟩ := H
                replace H : (if t291 = true then (colloquyref12_Right.l0 k2 a1 (wrap64 (x5_2 + 1)) a0_0 a0_1 a0_2 l0_3) else (some false)) = some r := H
                have A27 := Aside0.mk A270
                clear A270
                by_cases c28 : t291 = true
                · subst c28
                  have H1 : (colloquyref12_Right.l0 k2 a1 (wrap64 (x5_2 + 1)) a0_0 a0_1 a0_2 l0_3) = some r := by rw [if_pos rfl] at H; exact H
                  clear H
                  have H := H1
                  clear H1
                  have H' := Aside0.mk H
                  clear H
                  have hcz29_0 : wr.cell? ⟨gb288, 0, none⟩ = some (.int .i64 a0_0) := (blk_cell BK288.out 0).trans rfl
                  have hcz29_1 : wr.cell? ⟨gb288, 1, none⟩ = some (.string a0_1) := (blk_cell BK288.out 1).trans rfl
                  have hcz29_2 : wr.cell? ⟨gb288, 2, none⟩ = some (.string a0_2) := (blk_cell BK288.out 2).trans rfl
                  have hcz29_3 : wr.cell? ⟨gb288, 3, none⟩ = some (.slice A0_3 l0_3.length c0_3) := (blk_cell BK288.out 3).trans rfl
                  have hfz29_0 := blk_frozen BK288.out 0
                  have hfz29_1 := blk_frozen BK288.out 1
                  have hfz29_2 := blk_frozen BK288.out 2
                  have hfz29_3 := blk_frozen BK288.out 3
                  have p290 : 0 ≤ (x5_2 : Int) := of_decide_eq_true (by first | (with_reducible assumption) | assumption)
                  have q290 : x5_2 < (l0_3.length : Int) := of_decide_eq_true (by first | (with_reducible assumption) | assumption)
                  obtain ⟨ad290, A290_3, c290_3, e290, hx290_0, hx290_1, hx290_2, hx290_3, hl290_3, hi290_3⟩ := at_T24 HR0_3.out x5_2 p290 q290
                  cases e290
                  replace hx290_0 := (HB.out.cell (World.block_lt_of_cell? w _ hx290_0)).trans hx290_0
                  replace hx290_1 := (HB.out.cell (World.block_lt_of_cell? w _ hx290_1)).trans hx290_1
                  replace hx290_2 := (HB.out.cell (World.block_lt_of_cell? w _ hx290_2)).trans hx290_2
                  replace hx290_3 := (HB.out.cell (World.block_lt_of_cell? w _ hx290_3)).trans hx290_3
                  have HR290_3 := Aside0.mk hi290_3
                  have HC290_3 := Aside0.mk hl290_3
                  clear hi290_3 hl290_3
                  replace p290 := eq_true p290
                  replace q290 := eq_true q290
                  go_wp2_with (first | ((with_reducible refine gate_callee (f := 10) rfl ?_); refine goesL_ (some 49) rfl rfl Try.func10 (by kernel_rfl) rfl #[.agg #[.int .i64 ((rd_T24 l0_3 x5_2).f0), .string ((rd_T24 l0_3 x5_2).f1), .string ((rd_T24 l0_3 x5_2).f2), .slice A290_3 ((rd_T24 l0_3 x5_2).f3).length c290_3], .int .i64 (wrap64 (a1 - 1))] rfl (by (try simp only [List.map_toArray, List.map_cons, List.map_nil]); first | done | rfl | (simp only [List.length_drop, List.length_take]; rfl)) ?_; (with_reducible refine (ih k2 (by have := HJ4.out; have := HK2.out; omega) ((rd_T24 l0_3 x5_2).f0) ((rd_T24 l0_3 x5_2).f1) ((rd_T24 l0_3 x5_2).f2) _ _ ((rd_T24 l0_3 x5_2).f3) (wrap64 (a1 - 1)) true _ ?side1 ?side2 A27.out).mono ?_); (case side1 => repeat (first | exact (Kd.C_below HR290_3.out HB.out) | (with_reducible refine Kd.C_alloc ?_ _) | (with_reducible refine Kd.C_drewN ?_ _) | (with_reducible refine Kd.C_drew ?_))); (case side2 => exact HC290_3.out); rintro e w30 ⟨rfl, hb⟩; refine ⟨_, rfl, ?_⟩; have n0_ := Aside0.mk (blk_below (g := gb288) (o := .cells #[.int .i64 a0_0, .string a0_1, .string a0_2, .slice (some ad290) l0_3.length c0_3] 24 (0, 0)) (by (with_reducible repeat (first | refine blk_drewN ?_ _ | refine blk_drew ?_ | refine blk_alloc ?_ _)); exact BK288.out) hb); have n1_ := Aside0.mk (below_step (by repeat (first | (with_reducible first | exact HB.out | apply below_alloc | apply pw_below_drewN | apply below_drew1 | refine below_set ?_ GE288.out) | exact HB.out)) hb); clear BK288; clear HB; have BK288 := n0_; have HB := n1_; clear n0_ n1_; (try clear hb); (try clear hb2); (try clear hk); (try clear hi)))
                  go_roundg k2
                  case measure => have := HJ4.out; have := HK2.out; omega
                  case rel => exact ⟨(wrap64 (x5_2 + 1)), (by first | rfl | (simp; done) | (simp [*]; done)), H', ⟨by have := HJ4.out; have := HK2.out; omega⟩, ⟨by (with_reducible repeat (first | refine blk_drewN ?_ _ | refine blk_drew ?_ | refine blk_alloc ?_ _)); exact BK288.out⟩, ⟨by repeat (first | (with_reducible first | exact HB.out | apply below_alloc | apply pw_below_drewN | apply below_drew1 | refine below_set ?_ GE288.out) | exact HB.out)⟩⟩
                · replace c28 := Bool.eq_false_iff.mpr c28
                  subst c28
                  have H1 : (some false) = some r := by rw [if_neg (show ¬ (false = true) by decide)] at H; exact H
                  clear H
                  have H := H1
                  clear H1
                  obtain rfl := Option.some.inj H
                  have hcz31_0 : wr.cell? ⟨gb288, 0, none⟩ = some (.int .i64 a0_0) := (blk_cell BK288.out 0).trans rfl
                  have hcz31_1 : wr.cell? ⟨gb288, 1, none⟩ = some (.string a0_1) := (blk_cell BK288.out 1).trans rfl
                  have hcz31_2 : wr.cell? ⟨gb288, 2, none⟩ = some (.string a0_2) := (blk_cell BK288.out 2).trans rfl
                  have hcz31_3 : wr.cell? ⟨gb288, 3, none⟩ = some (.slice A0_3 l0_3.length c0_3) := (blk_cell BK288.out 3).trans rfl
                  have hfz31_0 := blk_frozen BK288.out 0
                  have hfz31_1 := blk_frozen BK288.out 1
                  have hfz31_2 := blk_frozen BK288.out 2
                  have hfz31_3 := blk_frozen BK288.out 3
                  have p290 : 0 ≤ (x5_2 : Int) := of_decide_eq_true (by first | (with_reducible assumption) | assumption)
                  have q290 : x5_2 < (l0_3.length : Int) := of_decide_eq_true (by first | (with_reducible assumption) | assumption)
                  obtain ⟨ad290, A290_3, c290_3, e290, hx290_0, hx290_1, hx290_2, hx290_3, hl290_3, hi290_3⟩ := at_T24 HR0_3.out x5_2 p290 q290
                  cases e290
                  replace hx290_0 := (HB.out.cell (World.block_lt_of_cell? w _ hx290_0)).trans hx290_0
                  replace hx290_1 := (HB.out.cell (World.block_lt_of_cell? w _ hx290_1)).trans hx290_1
                  replace hx290_2 := (HB.out.cell (World.block_lt_of_cell? w _ hx290_2)).trans hx290_2
                  replace hx290_3 := (HB.out.cell (World.block_lt_of_cell? w _ hx290_3)).trans hx290_3
                  have HR290_3 := Aside0.mk hi290_3
                  have HC290_3 := Aside0.mk hl290_3
                  clear hi290_3 hl290_3
                  replace p290 := eq_true p290
                  replace q290 := eq_true q290
                  go_wp2_with (first | ((with_reducible refine gate_callee (f := 10) rfl ?_); refine goesL_ (some 49) rfl rfl Try.func10 (by kernel_rfl) rfl #[.agg #[.int .i64 ((rd_T24 l0_3 x5_2).f0), .string ((rd_T24 l0_3 x5_2).f1), .string ((rd_T24 l0_3 x5_2).f2), .slice A290_3 ((rd_T24 l0_3 x5_2).f3).length c290_3], .int .i64 (wrap64 (a1 - 1))] rfl (by (try simp only [List.map_toArray, List.map_cons, List.map_nil]); first | done | rfl | (simp only [List.length_drop, List.length_take]; rfl)) ?_; (with_reducible refine (ih k2 (by have := HJ4.out; have := HK2.out; omega) ((rd_T24 l0_3 x5_2).f0) ((rd_T24 l0_3 x5_2).f1) ((rd_T24 l0_3 x5_2).f2) _ _ ((rd_T24 l0_3 x5_2).f3) (wrap64 (a1 - 1)) false _ ?side1 ?side2 A27.out).mono ?_); (case side1 => repeat (first | exact (Kd.C_below HR290_3.out HB.out) | (with_reducible refine Kd.C_alloc ?_ _) | (with_reducible refine Kd.C_drewN ?_ _) | (with_reducible refine Kd.C_drew ?_))); (case side2 => exact HC290_3.out); rintro e w32 ⟨rfl, hb⟩; refine ⟨_, rfl, ?_⟩; have n0_ := Aside0.mk (blk_below (g := gb288) (o := .cells #[.int .i64 a0_0, .string a0_1, .string a0_2, .slice (some ad290) l0_3.length c0_3] 24 (0, 0)) (by (with_reducible repeat (first | refine blk_drewN ?_ _ | refine blk_drew ?_ | refine blk_alloc ?_ _)); exact BK288.out) hb); have n1_ := Aside0.mk (below_step (by repeat (first | (with_reducible first | exact HB.out | apply below_alloc | apply pw_below_drewN | apply below_drew1 | refine below_set ?_ GE288.out) | exact HB.out)) hb); clear BK288; clear HB; have BK288 := n0_; have HB := n1_; clear n0_ n1_; (try clear hb); (try clear hb2); (try clear hk); (try clear hi)))
                  go_ret
                  exact ⟨by first | rfl | (simp [errW_none, errW_some] <;> rfl) | (simp [*, errW_none, errW_some] <;> rfl), by repeat (first | (with_reducible first | exact HB.out | apply below_alloc | apply pw_below_drewN | apply below_drew1 | refine below_set ?_ GE288.out) | exact HB.out)⟩
              · rw [if_neg c26] at H
                exact absurd H (by simp)
            · rw [if_neg c25] at H
              have c25b0 : decide (x5_2 < (l0_3.length : Int)) = false := decide_eq_false c25
              clear c25
              by_cases c33 : a0_1.toList = ([] : List UInt8)
              · rw [if_pos c33] at H
                have c33b0 : (a0_1.toList == ([] : List UInt8)) = true := beq_iff_eq.mpr c33
                have c33b1 : (a0_1.toList != ([] : List UInt8)) = false := bne_eq_false_iff_eq.mpr c33
                clear c33
                obtain rfl := Option.some.inj H
                have hcz34_0 : wr.cell? ⟨gb288, 0, none⟩ = some (.int .i64 a0_0) := (blk_cell BK288.out 0).trans rfl
                have hcz34_1 : wr.cell? ⟨gb288, 1, none⟩ = some (.string a0_1) := (blk_cell BK288.out 1).trans rfl
                have hcz34_2 : wr.cell? ⟨gb288, 2, none⟩ = some (.string a0_2) := (blk_cell BK288.out 2).trans rfl
                have hcz34_3 : wr.cell? ⟨gb288, 3, none⟩ = some (.slice A0_3 l0_3.length c0_3) := (blk_cell BK288.out 3).trans rfl
                have hfz34_0 := blk_frozen BK288.out 0
                have hfz34_1 := blk_frozen BK288.out 1
                have hfz34_2 := blk_frozen BK288.out 2
                have hfz34_3 := blk_frozen BK288.out 3
                go_wp2
                go_ret
                exact ⟨by first | rfl | (simp [errW_none, errW_some] <;> rfl) | (simp [*, errW_none, errW_some] <;> rfl), by repeat (first | (with_reducible first | exact HB.out | apply below_alloc | apply pw_below_drewN | apply below_drew1 | refine below_set ?_ GE288.out) | exact HB.out)⟩
              · rw [if_neg c33] at H
                have c33b0 : (a0_1.toList == ([] : List UInt8)) = false := beq_eq_false_iff_ne.mpr c33
                have c33b1 : (a0_1.toList != ([] : List UInt8)) = true := bne_iff_ne.mpr c33
                obtain rfl := Option.some.inj H
                have hcz35_0 : wr.cell? ⟨gb288, 0, none⟩ = some (.int .i64 a0_0) := (blk_cell BK288.out 0).trans rfl
                have hcz35_1 : wr.cell? ⟨gb288, 1, none⟩ = some (.string a0_1) := (blk_cell BK288.out 1).trans rfl
                have hcz35_2 : wr.cell? ⟨gb288, 2, none⟩ = some (.string a0_2) := (blk_cell BK288.out 2).trans rfl
                have hcz35_3 : wr.cell? ⟨gb288, 3, none⟩ = some (.slice A0_3 l0_3.length c0_3) := (blk_cell BK288.out 3).trans rfl
                have hfz35_0 := blk_frozen BK288.out 0
                have hfz35_1 := blk_frozen BK288.out 1
                have hfz35_2 := blk_frozen BK288.out 2
                have hfz35_3 := blk_frozen BK288.out 3
                go_wp2
                go_ret
                exact ⟨by first | rfl | (simp [errW_none, errW_some] <;> rfl) | (simp [*, errW_none, errW_some] <;> rfl), by repeat (first | (with_reducible first | exact HB.out | apply below_alloc | apply pw_below_drewN | apply below_drew1 | refine below_set ?_ GE288.out) | exact HB.out)⟩

end Go.Proofs.Ytjndcgochnaodaa.PA
