/- What this claim uses of this session's own texts, put together by a program: PAx92 PAx93 HPackR HMap HVfs HVfs2 HVfs3 HVfs4 GRead HReadL KeyIter PAx100 HSame HClone0 HJour HJourL HProw HWith GRefW HRef HRef2 GRef0 HRef3. -/
import Derived.Test.YtkdahjnmldeklaaGreatKJournalPlays0
import Derived.Test.YtkdahjnmldeklaaGreatProg
import Derived.Test.YtkdahjnmldeklaaGreatRows
namespace Go.Proofs.YtkdahjnmldeklaaGreat.PA
open Go.RowKit Go.Proofs.YtkdahjnmldeklaaGreatW.PrintWords Go.Proofs.YtkdahjnmldeklaaGreatW.PrintLast Go.Proofs.YtkdahjnmldeklaaGreatW.PrintMore
set_option linter.unusedVariables false
set_option linter.unusedSimpArgs false
set_option maxRecDepth 100000
set_option maxHeartbeats 8000000
section
attribute [local go_sem] max2_int min2_int max_two min_two max_three min_three max_four min_four   -- for this text's walks alone
def colloquyref08_Record.f (k : Nat) (l0 : List Int) : Option (List Int) := (colloquyref08_four.f (l0.length : Int)).bind fun t490 => ((colloquyref08_Sum.f k l0).bind fun t493 => ((colloquyref08_four.f (wrap64 (t493))).bind fun t494 => ((colloquyref08_Join.f k t490 t494).bind fun t497 => ((colloquyref08_Join.f k t497 l0).bind fun t500 => (some t500)))))
theorem colloquyref08_Record.mono : ∀ a0 k, LeO (colloquyref08_Record.f k a0) (colloquyref08_Record.f (k + 1) a0) := by
  intro a0 k
  unfold colloquyref08_Record.f
  repeat' first
      | (with_reducible exact colloquyref08_Join.mono _ _ _)
      | (with_reducible exact colloquyref08_Sum.mono _ _)
      | (with_reducible exact LeO.refl _)
      | (with_reducible exact LeO.none _)
      | (with_reducible refine LeO.ite ?_ ?_)
      | (with_reducible refine LeO.bind ?_ (fun _ => ?_))
      | exact colloquyref08_Join.mono _ _ _
      | exact colloquyref08_Sum.mono _ _
      | exact LeO.none _
      | refine LeO.ite ?_ ?_
      | refine LeO.bind ?_ (fun _ => ?_)
theorem colloquyref08_Record.calls (k : Nat) (A0 : Option Addr) (c0 : Nat) (l0 : List Int) (r : List Int) (w : World) (hr0 : Kd.C (Kd.int .u8) w A0 l0.length l0) (hc0 : l0.length ≤ c0) (h : colloquyref08_Record.f k l0 = some r) :
    Calls Tryz.prog 70 #[.slice A0 l0.length c0] w fun e w' => ∃ v0_ : Value, e = .returned (v0_) ∧ Kd.R (Kd.int .u8) 5 w' w.heap.size (fun _ => True) v0_ r ∧ Below w.heap.size w w' := by
  have HR0 := Aside0.mk hr0
  have HC0 := Aside0.mk hc0
  clear hr0 hc0
  have HB := Aside0.mk (Below.refl w.heap.size w)
  have H : ((colloquyref08_four.f (l0.length : Int)).bind fun t490 => ((colloquyref08_Sum.f k l0).bind fun t493 => ((colloquyref08_four.f (wrap64 (t493))).bind fun t494 => ((colloquyref08_Join.f k t490 t494).bind fun t497 => ((colloquyref08_Join.f k t497 l0).bind fun t500 => (some t500)))))) = some r := h
  clear h
  replace H := Option.bind_eq_some_iff.mp H
  obtain ⟨t490, A20, H⟩ := H
  replace H : ((colloquyref08_Sum.f k l0).bind fun t493 => ((colloquyref08_four.f (wrap64 (t493))).bind fun t494 => ((colloquyref08_Join.f k t490 t494).bind fun t497 => ((colloquyref08_Join.f k t497 l0).bind fun t500 => (some t500))))) = some r := H
  have A2 := Aside0.mk A20
  clear A20
  replace H := Option.bind_eq_some_iff.mp H
  obtain ⟨t493, A30, H⟩ := H
  replace H : ((colloquyref08_four.f (wrap64 (t493))).bind fun t494 => ((colloquyref08_Join.f k t490 t494).bind fun t497 => ((colloquyref08_Join.f k t497 l0).bind fun t500 => (some t500)))) = some r := H
  have A3 := Aside0.mk A30
  clear A30
  replace H := Option.bind_eq_some_iff.mp H
  obtain ⟨t494, A40, H⟩ := H
  replace H : ((colloquyref08_Join.f k t490 t494).bind fun t497 => ((colloquyref08_Join.f k t497 l0).bind fun t500 => (some t500))) = some r := H
  have A4 := Aside0.mk A40
  clear A40
  replace H := Option.bind_eq_some_iff.mp H
  obtain ⟨t497, A50, H⟩ := H
  replace H : ((colloquyref08_Join.f k t497 l0).bind fun t500 => (some t500)) = some r := H
  have A5 := Aside0.mk A50
  clear A50
  replace H := Option.bind_eq_some_iff.mp H
  obtain ⟨t500, A60, H⟩ := H
  replace H : (some t500) = some r := H
  have A6 := Aside0.mk A60
  clear A60
  obtain rfl := Option.some.inj H
  go_enter Tryz.func70, Tryz.ntmps70
  go_wp2_with (first | ((with_reducible refine gate_callee (f := 78) rfl ?_); refine goesL_ (some 5) rfl rfl Tryz.func78 (by kernel_rfl) rfl #[.int .i64 (l0.length : Int)] rfl (by (try simp only [List.map_toArray, List.map_cons, List.map_nil]); first | done | rfl | (simp only [List.length_drop, List.length_take]; rfl)) ?_; (with_reducible refine (colloquyref08_four.calls (l0.length : Int) t490 _ A2.out).mono ?_); rintro e w7 ⟨v491, rfl, ho0, hb⟩; refine ⟨_, rfl, ?_⟩; have n0_ := Aside0.mk (Kd.R_lower ho0 (below_size (by repeat (first | (with_reducible first | exact HB.out | apply below_alloc | apply pw_below_drewN | apply below_drew1) | exact HB.out)))); have n1_ := Aside0.mk (below_step (by repeat (first | (with_reducible first | exact HB.out | apply below_alloc | apply pw_below_drewN | apply below_drew1) | exact HB.out)) hb); clear HB; have HO492 := n0_; have HB := n1_; clear n0_ n1_; (try clear hb); (try clear hb2); (try clear hk); (try clear hi); (try clear ho0)) | ((with_reducible refine gate_callee (f := 79) rfl ?_); refine goesL_ (some 7) rfl rfl Tryz.func79 (by kernel_rfl) rfl #[.slice A0 l0.length c0] rfl (by (try simp only [List.map_toArray, List.map_cons, List.map_nil]); first | done | rfl | (simp only [List.length_drop, List.length_take]; rfl)) ?_; (with_reducible refine (colloquyref08_Sum.calls k _ _ l0 t493 _ ?side1 ?side2 A3.out).mono ?_); (case side1 => repeat (first | exact (Kd.C_below HR0.out HB.out) | (with_reducible refine Kd.C_alloc ?_ _) | (with_reducible refine Kd.C_drewN ?_ _) | (with_reducible refine Kd.C_drew ?_))); (case side2 => exact HC0.out); rintro e w' ⟨rfl, ⟨nd, rfl⟩⟩; refine ⟨_, rfl, ?_⟩) | ((with_reducible refine gate_callee (f := 78) rfl ?_); refine goesL_ (some 9) rfl rfl Tryz.func78 (by kernel_rfl) rfl #[.int .i64 (wrap64 (t493))] rfl (by (try simp only [List.map_toArray, List.map_cons, List.map_nil]); first | done | rfl | (simp only [List.length_drop, List.length_take]; rfl)) ?_; (with_reducible refine (colloquyref08_four.calls (wrap64 (t493)) t494 _ A4.out).mono ?_); rintro e w8 ⟨v495, rfl, ho0, hb⟩; refine ⟨_, rfl, ?_⟩; have n0_ := Aside0.mk (Kd.R_elder' (by (with_reducible repeat (first | apply Kd.R_alloc | apply Kd.R_drewN | apply Kd.R_drew)); exact HO492.out) (Kd.R_base ho0) hb); have n1_ := Aside0.mk (Kd.R_lower (Kd.R_new' ho0 (Kd.R_lt (by (with_reducible repeat (first | apply Kd.R_alloc | apply Kd.R_drewN | apply Kd.R_drew)); exact HO492.out))) (below_size (by repeat (first | (with_reducible first | exact HB.out | apply below_alloc | apply pw_below_drewN | apply below_drew1) | exact HB.out)))); have n2_ := Aside0.mk (below_step (by repeat (first | (with_reducible first | exact HB.out | apply below_alloc | apply pw_below_drewN | apply below_drew1) | exact HB.out)) hb); clear HO492; clear HB; have HO492 := n0_; have HO496 := n1_; have HB := n2_; clear n0_ n1_ n2_; (try clear hb); (try clear hb2); (try clear hk); (try clear hi); (try clear ho0); obtain ⟨Ao9, co9, eo9⟩ := Kd.R_slice HO492.out; subst eo9; obtain ⟨Ao10, co10, eo10⟩ := Kd.R_slice HO496.out; subst eo10) | ((with_reducible refine gate_callee (f := 71) rfl ?_); refine goesL_ (some 10) rfl rfl Tryz.func71 (by kernel_rfl) rfl #[.slice Ao9 t490.length co9, .slice Ao10 t494.length co10] rfl (by (try simp only [List.map_toArray, List.map_cons, List.map_nil]); first | done | rfl | (simp only [List.length_drop, List.length_take]; rfl)) ?_; (with_reducible refine (colloquyref08_Join.calls k _ _ t490 _ _ t494 t497 _ ?side1 ?side2 ?side3 ?side4 A5.out).mono ?_); (case side1 => repeat (first | exact (Kd.R_reads' HO492.out).2.2 | (with_reducible refine Kd.C_alloc ?_ _) | (with_reducible refine Kd.C_drewN ?_ _) | (with_reducible refine Kd.C_drew ?_))); (case side2 => exact (Kd.R_reads' HO492.out).2.1); (case side3 => repeat (first | exact (Kd.R_reads' HO496.out).2.2 | (with_reducible refine Kd.C_alloc ?_ _) | (with_reducible refine Kd.C_drewN ?_ _) | (with_reducible refine Kd.C_drew ?_))); (case side4 => exact (Kd.R_reads' HO496.out).2.1); rintro e w11 ⟨v498, rfl, ho0, hb⟩; refine ⟨_, rfl, ?_⟩; have n0_ := Aside0.mk (Kd.R_elder' (by (with_reducible repeat (first | apply Kd.R_alloc | apply Kd.R_drewN | apply Kd.R_drew)); exact HO492.out) (Kd.R_base ho0) hb); have n1_ := Aside0.mk (Kd.R_elder' (by (with_reducible repeat (first | apply Kd.R_alloc | apply Kd.R_drewN | apply Kd.R_drew)); exact HO496.out) (Kd.R_base ho0) hb); have n2_ := Aside0.mk (Kd.R_lower (Kd.R_new' (Kd.R_new' ho0 (Kd.R_lt (by (with_reducible repeat (first | apply Kd.R_alloc | apply Kd.R_drewN | apply Kd.R_drew)); exact HO492.out))) (Kd.R_lt (by (with_reducible repeat (first | apply Kd.R_alloc | apply Kd.R_drewN | apply Kd.R_drew)); exact HO496.out))) (below_size (by repeat (first | (with_reducible first | exact HB.out | apply below_alloc | apply pw_below_drewN | apply below_drew1) | exact HB.out)))); have n3_ := Aside0.mk (below_step (by repeat (first | (with_reducible first | exact HB.out | apply below_alloc | apply pw_below_drewN | apply below_drew1) | exact HB.out)) hb); clear HO492; clear HO496; clear HB; have HO492 := n0_; have HO496 := n1_; have HO499 := n2_; have HB := n3_; clear n0_ n1_ n2_ n3_; (try clear hb); (try clear hb2); (try clear hk); (try clear hi); (try clear ho0); obtain ⟨Ao12, co12, eo12⟩ := Kd.R_slice HO499.out; subst eo12) | ((with_reducible refine gate_callee (f := 71) rfl ?_); refine goesL_ (some 12) rfl rfl Tryz.func71 (by kernel_rfl) rfl #[.slice Ao12 t497.length co12, .slice A0 l0.length c0] rfl (by (try simp only [List.map_toArray, List.map_cons, List.map_nil]); first | done | rfl | (simp only [List.length_drop, List.length_take]; rfl)) ?_; (with_reducible refine (colloquyref08_Join.calls k _ _ t497 _ _ l0 t500 _ ?side1 ?side2 ?side3 ?side4 A6.out).mono ?_); (case side1 => repeat (first | exact (Kd.R_reads' HO499.out).2.2 | (with_reducible refine Kd.C_alloc ?_ _) | (with_reducible refine Kd.C_drewN ?_ _) | (with_reducible refine Kd.C_drew ?_))); (case side2 => exact (Kd.R_reads' HO499.out).2.1); (case side3 => repeat (first | exact (Kd.C_below HR0.out HB.out) | (with_reducible refine Kd.C_alloc ?_ _) | (with_reducible refine Kd.C_drewN ?_ _) | (with_reducible refine Kd.C_drew ?_))); (case side4 => exact HC0.out); rintro e w13 ⟨v501, rfl, ho0, hb⟩; refine ⟨_, rfl, ?_⟩; have n0_ := Aside0.mk (Kd.R_elder' (by (with_reducible repeat (first | apply Kd.R_alloc | apply Kd.R_drewN | apply Kd.R_drew)); exact HO492.out) (Kd.R_base ho0) hb); have n1_ := Aside0.mk (Kd.R_elder' (by (with_reducible repeat (first | apply Kd.R_alloc | apply Kd.R_drewN | apply Kd.R_drew)); exact HO496.out) (Kd.R_base ho0) hb); have n2_ := Aside0.mk (Kd.R_elder' (by (with_reducible repeat (first | apply Kd.R_alloc | apply Kd.R_drewN | apply Kd.R_drew)); exact HO499.out) (Kd.R_base ho0) hb); have n3_ := Aside0.mk (Kd.R_lower (Kd.R_new' (Kd.R_new' (Kd.R_new' ho0 (Kd.R_lt (by (with_reducible repeat (first | apply Kd.R_alloc | apply Kd.R_drewN | apply Kd.R_drew)); exact HO492.out))) (Kd.R_lt (by (with_reducible repeat (first | apply Kd.R_alloc | apply Kd.R_drewN | apply Kd.R_drew)); exact HO496.out))) (Kd.R_lt (by (with_reducible repeat (first | apply Kd.R_alloc | apply Kd.R_drewN | apply Kd.R_drew)); exact HO499.out))) (below_size (by repeat (first | (with_reducible first | exact HB.out | apply below_alloc | apply pw_below_drewN | apply below_drew1) | exact HB.out)))); have n4_ := Aside0.mk (below_step (by repeat (first | (with_reducible first | exact HB.out | apply below_alloc | apply pw_below_drewN | apply below_drew1) | exact HB.out)) hb); clear HO492; clear HO496; clear HO499; clear HB; have HO492 := n0_; have HO496 := n1_; have HO499 := n2_; have HO502 := n3_; have HB := n4_; clear n0_ n1_ n2_ n3_ n4_; (try clear hb); (try clear hb2); (try clear hk); (try clear hi); (try clear ho0)))
  go_ret
  exact ⟨_, by first | rfl | (simp [errW_none, errW_some] <;> rfl) | (simp [*, errW_none, errW_some] <;> rfl), by (with_reducible repeat (first | apply Kd.R_alloc | apply Kd.R_drewN | apply Kd.R_drew)); exact Kd.R_mono HO502.out (fun _ hk => trivial), by repeat (first | (with_reducible first | exact HB.out | apply below_alloc | apply pw_below_drewN | apply below_drew1) | exact HB.out)⟩
end
section
attribute [local go_sem] max2_int min2_int max_two min_two max_three min_three max_four min_four   -- for this text's walks alone
mutual
def colloquyref08_Num.j0 : Nat → Int → Option (List Int)
  | 0, _ => none
  | k + 1, x0 => if x0 > 4611686018427387904 then (colloquyref08_Num.j1 k 4611686018427387904) else (colloquyref08_Num.j1 k x0)
def colloquyref08_Num.j1 : Nat → Int → Option (List Int)
  | 0, _ => none
  | k + 1, x0 => colloquyref08_Num.l0 k x0 (([] : List Int))
def colloquyref08_Num.l0 : Nat → Int → List Int → Option (List Int)
  | 0, _, _ => none
  | k + 1, x0, x3 => if x0 ≥ 128 then (if x3.length < 140737488355328 then (colloquyref08_Num.l0 k (wrap64 (Int.tdiv x0 128)) (x3 ++ [(wrap64 ((Int.tmod x0 128) + 128)) % 256])) else (none)) else (if x3.length < 140737488355328 then (some (x3 ++ [(x0) % 256])) else (none))
end
def colloquyref08_Num.f (k : Nat) (a0 : Int) : Option (List Int) := if a0 < 0 then (colloquyref08_Num.j0 k 0) else (colloquyref08_Num.j0 k a0)
theorem colloquyref08_Num.mono_l : ∀ k, (∀ y0, LeO (colloquyref08_Num.j0 k y0) (colloquyref08_Num.j0 (k + 1) y0)) ∧ (∀ y0, LeO (colloquyref08_Num.j1 k y0) (colloquyref08_Num.j1 (k + 1) y0)) ∧ (∀ y0 y1, LeO (colloquyref08_Num.l0 k y0 y1) (colloquyref08_Num.l0 (k + 1) y0 y1))
  | 0 => ⟨fun _ r h => by simp [colloquyref08_Num.j0] at h, fun _ r h => by simp [colloquyref08_Num.j1] at h, fun _ _ r h => by simp [colloquyref08_Num.l0] at h⟩
  | k + 1 => by
    obtain ⟨ih0, ih1, ih2⟩ := colloquyref08_Num.mono_l k
    refine ⟨?_, ?_, ?_⟩
    · intro y0
      unfold colloquyref08_Num.j0
      repeat' first
      | (with_reducible exact ih0 _)
      | (with_reducible exact ih1 _)
      | (with_reducible exact ih2 _ _)
      | (with_reducible exact LeO.refl _)
      | (with_reducible exact LeO.none _)
      | (with_reducible refine LeO.ite ?_ ?_)
      | (with_reducible refine LeO.bind ?_ (fun _ => ?_))
      | exact ih0 _
      | exact ih1 _
      | exact ih2 _ _
      | exact LeO.none _
      | refine LeO.ite ?_ ?_
      | refine LeO.bind ?_ (fun _ => ?_)
    · intro y0
      unfold colloquyref08_Num.j1
      repeat' first
      | (with_reducible exact ih0 _)
      | (with_reducible exact ih1 _)
      | (with_reducible exact ih2 _ _)
      | (with_reducible exact LeO.refl _)
      | (with_reducible exact LeO.none _)
      | (with_reducible refine LeO.ite ?_ ?_)
      | (with_reducible refine LeO.bind ?_ (fun _ => ?_))
      | exact ih0 _
      | exact ih1 _
      | exact ih2 _ _
      | exact LeO.none _
      | refine LeO.ite ?_ ?_
      | refine LeO.bind ?_ (fun _ => ?_)
    · intro y0 y1
      unfold colloquyref08_Num.l0
      repeat' first
      | (with_reducible exact ih0 _)
      | (with_reducible exact ih1 _)
      | (with_reducible exact ih2 _ _)
      | (with_reducible exact LeO.refl _)
      | (with_reducible exact LeO.none _)
      | (with_reducible refine LeO.ite ?_ ?_)
      | (with_reducible refine LeO.bind ?_ (fun _ => ?_))
      | exact ih0 _
      | exact ih1 _
      | exact ih2 _ _
      | exact LeO.none _
      | refine LeO.ite ?_ ?_
      | refine LeO.bind ?_ (fun _ => ?_)
theorem colloquyref08_Num.mono : ∀ a0 k, LeO (colloquyref08_Num.f k a0) (colloquyref08_Num.f (k + 1) a0) := by
  intro a0 k
  obtain ⟨ih0, ih1, ih2⟩ := colloquyref08_Num.mono_l k
  unfold colloquyref08_Num.f
  repeat' first
      | (with_reducible exact ih0 _)
      | (with_reducible exact ih1 _)
      | (with_reducible exact ih2 _ _)
      | (with_reducible exact LeO.refl _)
      | (with_reducible exact LeO.none _)
      | (with_reducible refine LeO.ite ?_ ?_)
      | (with_reducible refine LeO.bind ?_ (fun _ => ?_))
      | exact ih0 _
      | exact ih1 _
      | exact ih2 _ _
      | exact LeO.none _
      | refine LeO.ite ?_ ?_
      | refine LeO.bind ?_ (fun _ => ?_)
theorem colloquyref08_Num.calls (k : Nat) (a0 : Int) (r : List Int) (w : World) (h : colloquyref08_Num.f k a0 = some r) :
    Calls Tryz.prog 72 #[.int .i64 a0] w fun e w' => ∃ v0_ : Value, e = .returned (v0_) ∧ Kd.R (Kd.int .u8) 5 w' w.heap.size (fun _ => True) v0_ r ∧ Below w.heap.size w w' := by
  have HB := Aside0.mk (Below.refl w.heap.size w)
  have H : (if a0 < 0 then (colloquyref08_Num.j0 k 0) else (colloquyref08_Num.j0 k a0)) = some r := h
  clear h
  have HC2 := Aside0.mk H
  clear H
  go_enter Tryz.func72, Tryz.ntmps72
  go_upto_if 5 with (fail)
  go_cut [0] (fun v0 wc => ∃ (kq : Nat) (x0_1 : Int), v0 = .int .i64 x0_1 ∧ Aside0 (colloquyref08_Num.j0 kq x0_1 = some r) ∧ Aside0 (kq ≤ k) ∧ Aside0 (Below w.heap.size w wc))
  case first =>
    have H := HC2.out
    clear HC2
    by_cases c3 : a0 < 0
    · rw [if_pos c3] at H
      have c3b0 : decide (a0 < 0) = true := decide_eq_true c3
      clear c3
      (first | rw [c3b0] | rw [c3b1] | (simp only [i64_w, i32_w]; rw [c3b0]) | skip)
      have H' := Aside0.mk H
      clear H
      go_wp2
      go_meet
      case rel => exact ⟨_, (0), (by first | rfl | (simp; done) | (simp [*]; done)), H', ⟨by first | omega | exact Nat.le_refl _⟩, ⟨by repeat (first | (with_reducible first | exact HB.out | apply below_alloc | apply pw_below_drewN | apply below_drew1) | exact HB.out)⟩⟩
    · rw [if_neg c3] at H
      have c3b0 : decide (a0 < 0) = false := decide_eq_false c3
      clear c3
      (first | rw [c3b0] | rw [c3b1] | (simp only [i64_w, i32_w]; rw [c3b0]) | skip)
      have H' := Aside0.mk H
      clear H
      go_wp2
      go_meet
      case rel => exact ⟨_, (a0), (by first | rfl | (simp; done) | (simp [*]; done)), H', ⟨by first | omega | exact Nat.le_refl _⟩, ⟨by repeat (first | (with_reducible first | exact HB.out | apply below_alloc | apply pw_below_drewN | apply below_drew1) | exact HB.out)⟩⟩
  case rest =>
    clear HC2
    try clear p2
    try clear c3
    try clear c3b0
    try clear c3b1
    obtain ⟨kq, x0_1, rfl, HA, HJ1, HB⟩ := hcut
    cases kq with
    | zero => exact absurd HA.out (by simp [colloquyref08_Num.j0])
    | succ kj1 =>
      have H := HA.out
      clear HA
      simp only [colloquyref08_Num.j0] at H
      have HC4 := Aside0.mk H
      clear H
      go_upto_if 7 with (fail)
      go_cut [0] (fun v0 wc => ∃ (kq : Nat) (x0_3 : Int), v0 = .int .i64 x0_3 ∧ Aside0 (colloquyref08_Num.j1 kq x0_3 = some r) ∧ Aside0 (kq ≤ kj1) ∧ Aside0 (Below w.heap.size w wc))
      case first =>
        have H := HC4.out
        clear HC4
        by_cases c5 : x0_1 > 4611686018427387904
        · rw [if_pos c5] at H
          have c5b0 : decide (4611686018427387904 < x0_1) = true := decide_eq_true c5
          clear c5
          (first | rw [c5b0] | rw [c5b1] | (simp only [i64_w, i32_w]; rw [c5b0]) | skip)
          have H' := Aside0.mk H
          clear H
          go_wp2
          go_meet
          case rel => exact ⟨_, (4611686018427387904), (by first | rfl | (simp; done) | (simp [*]; done)), H', ⟨by have := HJ1.out; first | omega | exact Nat.le_refl _⟩, ⟨by repeat (first | (with_reducible first | exact HB.out | apply below_alloc | apply pw_below_drewN | apply below_drew1) | exact HB.out)⟩⟩
        · rw [if_neg c5] at H
          have c5b0 : decide (4611686018427387904 < x0_1) = false := decide_eq_false c5
          clear c5
          (first | rw [c5b0] | rw [c5b1] | (simp only [i64_w, i32_w]; rw [c5b0]) | skip)
          have H' := Aside0.mk H
          clear H
          go_wp2
          go_meet
          case rel => exact ⟨_, (x0_1), (by first | rfl | (simp; done) | (simp [*]; done)), H', ⟨by have := HJ1.out; first | omega | exact Nat.le_refl _⟩, ⟨by repeat (first | (with_reducible first | exact HB.out | apply below_alloc | apply pw_below_drewN | apply below_drew1) | exact HB.out)⟩⟩
      case rest =>
        clear HC4
        try clear p2
        try clear c3
        try clear c3b0
        try clear c3b1
        try clear c5
        try clear c5b0
        try clear c5b1
        try clear p2
        obtain ⟨kq, x0_3, rfl, HA, HJ3, HB⟩ := hcut
        cases kq with
        | zero => exact absurd HA.out (by simp [colloquyref08_Num.j1])
        | succ kj3 =>
          have H := HA.out
          clear HA
          simp only [colloquyref08_Num.j1] at H
          obtain ⟨y503, hy503⟩ : ∃ y_ : List Int, y_ = (([] : List Int)) := ⟨_, rfl⟩
          replace H : (colloquyref08_Num.l0 kj3 x0_3 y503) = some r := by first | (rw [hy503]; with_reducible exact H) | (have H2_ := (Option.bind_some _ _).symm.trans H; rw [hy503]; with_reducible exact H2_) | (have H2_ := (Option.bind_some _ _).symm.trans H; with_reducible exact H2_) | with_reducible exact H | (rw [hy503]; exact H) | exact H
          have Ny503 := Aside0.mk hy503
          clear hy503
          have H' := Aside0.mk H
          clear H
          go_wp2_with (first | ((with_reducible refine gate_dst (N := 8) rfl ?_); refine Kd.R_lit (Kd.int .u8) _ 5 ?hg (N := 8) ?hd (xs := ([] : List Int)) (inner := []) (ok := fun _ => True) (okp := fun _ => True) ?hr ?hp (fun _ hk => hk) trivial (Below.refl _ _) (Nat.le_refl _) (by simp) ?_; (case hd => rfl); (case hg => rfl); (case hr => first | (go_simp; done) | (go_simp; rfl)); (case hp => exact (Reps.none _ _)); intro v504 w6 ho7 hb hg_ hnew_; clear hg_ hnew_; (first | rw [← Ny503.out] at ho7 | (simp only [Int.reduceToNat] at ho7; rw [← Ny503.out] at ho7)); have n0_ := Aside0.mk (Kd.R_lower ho7 (below_size (by repeat (first | (with_reducible first | exact HB.out | apply below_alloc | apply pw_below_drewN | apply below_drew1) | exact HB.out)))); have n1_ := Aside0.mk (below_step (by repeat (first | (with_reducible first | exact HB.out | apply below_alloc | apply pw_below_drewN | apply below_drew1) | exact HB.out)) hb); clear HB; have HO505 := n0_; have HB := n1_; clear n0_ n1_; clear hb ho7))
          go_loopg [0, 3] kj3 (fun kq v0 v3 w' => ∃ (x0_3 : Int) (x3_3 : List Int), v0 = .int .i64 x0_3 ∧ Aside0 (colloquyref08_Num.l0 kq x0_3 x3_3 = some r) ∧ Aside0 (kq ≤ kj3) ∧ Aside0 (Kd.R (Kd.int .u8) 5 w' w.heap.size (fun _ => True) v3 x3_3) ∧ Aside0 (Below w.heap.size w w'))
          case atStart => exact ⟨(x0_3), (y503), (by first | rfl | (simp; done) | (simp [*]; done)), H', ⟨Nat.le_refl _⟩, ⟨by (with_reducible repeat (first | apply Kd.R_alloc | apply Kd.R_drewN | apply Kd.R_drew)); exact HO505.out⟩, ⟨by repeat (first | (with_reducible first | exact HB.out | apply below_alloc | apply pw_below_drewN | apply below_drew1) | exact HB.out)⟩⟩
          case round =>
            clear H'
            try clear p2
            try clear c3
            try clear c3b0
            try clear c3b1
            try clear c5
            try clear c5b0
            try clear c5b1
            try clear c7
            try clear p2
            obtain ⟨x0_3, x3_3, rfl, HA, HK3, HO_3, HB⟩ := hrel
            cases gk with
            | zero => exact absurd HA.out (by simp [colloquyref08_Num.l0])
            | succ k3 =>
              have H := HA.out
              clear HA
              simp only [colloquyref08_Num.l0] at H
              by_cases c8 : x0_3 ≥ 128
              · rw [if_pos c8] at H
                have c8b0 : decide (128 ≤ x0_3) = true := decide_eq_true c8
                clear c8
                by_cases c9 : x3_3.length < 140737488355328
                · rw [if_pos c9] at H
                  have LMc9 := Aside0.mk c9
                  clear c9
                  obtain ⟨y506, hy506⟩ : ∃ y_ : List Int, y_ = (x3_3 ++ [(wrap64 ((Int.tmod x0_3 128) + 128)) % 256]) := ⟨_, rfl⟩
                  replace H : (colloquyref08_Num.l0 k3 (wrap64 (Int.tdiv x0_3 128)) y506) = some r := by first | (rw [hy506]; with_reducible exact H) | (have H2_ := (Option.bind_some _ _).symm.trans H; rw [hy506]; with_reducible exact H2_) | (have H2_ := (Option.bind_some _ _).symm.trans H; with_reducible exact H2_) | with_reducible exact H | (rw [hy506]; exact H) | exact H
                  have Ny506 := Aside0.mk hy506
                  clear hy506
                  have H' := Aside0.mk H
                  clear H
                  go_wp2_with (first | ((with_reducible refine gate_builtin (b := .append) (xs := #[.tmp 11, .tmp 16]) rfl ?_); at_builtin; refine Kd.R_append (Kd.int .u8) (w0 := w) w.heap.size rfl (.tmp 11) (.tmp 16) 22 5 (.int .u8 0) 1 rfl Tryz.underlying22 info5 rfl (by decide) (by omega) u3 x3_3 ((wrap64 ((Int.tmod x0_3 128) + 128)) % 256) [.int .u8 ((wrap64 ((Int.tmod x0_3 128) + 128)) % 256)] (fun _ => True) (fun _ => False) rfl rfl ?aP (fun _ hk => hk.elim) ?aF ?aO ?aB ?aS ?aL ?_; (case aP => exact rfl); (case aB => exact (by repeat (first | (with_reducible first | exact HB.out | apply below_alloc | apply pw_below_drewN | apply below_drew1) | exact HB.out))); (case aF => exact (fun _ _ => trivial)); (case aO => exact (by (with_reducible repeat (first | apply Kd.R_alloc | apply Kd.R_drewN | apply Kd.R_drew)); exact HO_3.out)); (case aS => exact (below_size (by repeat (first | (with_reducible first | exact HB.out | apply below_alloc | apply pw_below_drewN | apply below_drew1) | exact HB.out)))); (case aL => have := LMc9.out; omega); intro v507 w10 ho hb hg hat; rw [← Ny506.out] at ho; have n0_ := Aside0.mk (hb); have n1_ := Aside0.mk (ho); clear HB; clear HO_3; have HB := n0_; have HO508 := n1_; clear n0_ n1_; clear ho hb hg hat))
                  go_roundg k3
                  case measure => have := HJ1.out; have := HJ3.out; have := HK3.out; omega
                  case rel => exact ⟨(wrap64 (Int.tdiv x0_3 128)), (y506), (by first | rfl | (simp; done) | (simp [*]; done)), H', ⟨by have := HJ1.out; have := HJ3.out; have := HK3.out; omega⟩, ⟨by (with_reducible repeat (first | apply Kd.R_alloc | apply Kd.R_drewN | apply Kd.R_drew)); exact HO508.out⟩, ⟨by repeat (first | (with_reducible first | exact HB.out | apply below_alloc | apply pw_below_drewN | apply below_drew1) | exact HB.out)⟩⟩
                · rw [if_neg c9] at H
                  exact absurd H (by simp)
              · rw [if_neg c8] at H
                have c8b0 : decide (128 ≤ x0_3) = false := decide_eq_false c8
                clear c8
                by_cases c11 : x3_3.length < 140737488355328
                · rw [if_pos c11] at H
                  have LMc11 := Aside0.mk c11
                  clear c11
                  obtain ⟨y509, hy509⟩ : ∃ y_ : List Int, y_ = (x3_3 ++ [(x0_3) % 256]) := ⟨_, rfl⟩
                  replace H : (some y509) = some r := by first | (rw [hy509]; with_reducible exact H) | (have H2_ := (Option.bind_some _ _).symm.trans H; rw [hy509]; with_reducible exact H2_) | (have H2_ := (Option.bind_some _ _).symm.trans H; with_reducible exact H2_) | with_reducible exact H | (rw [hy509]; exact H) | exact H
                  have Ny509 := Aside0.mk hy509
                  clear hy509
                  obtain rfl := Option.some.inj H
                  go_wp2_with (first | ((with_reducible refine gate_builtin (b := .append) (xs := #[.tmp 20, .tmp 23]) rfl ?_); at_builtin; refine Kd.R_append (Kd.int .u8) (w0 := w) w.heap.size rfl (.tmp 20) (.tmp 23) 22 5 (.int .u8 0) 1 rfl Tryz.underlying22 info5 rfl (by decide) (by omega) u3 x3_3 ((x0_3) % 256) [.int .u8 ((x0_3) % 256)] (fun _ => True) (fun _ => False) rfl rfl ?aP (fun _ hk => hk.elim) ?aF ?aO ?aB ?aS ?aL ?_; (case aP => exact rfl); (case aB => exact (by repeat (first | (with_reducible first | exact HB.out | apply below_alloc | apply pw_below_drewN | apply below_drew1) | exact HB.out))); (case aF => exact (fun _ _ => trivial)); (case aO => exact (by (with_reducible repeat (first | apply Kd.R_alloc | apply Kd.R_drewN | apply Kd.R_drew)); exact HO_3.out)); (case aS => exact (below_size (by repeat (first | (with_reducible first | exact HB.out | apply below_alloc | apply pw_below_drewN | apply below_drew1) | exact HB.out)))); (case aL => have := LMc11.out; omega); intro v510 w12 ho hb hg hat; rw [← Ny509.out] at ho; have n0_ := Aside0.mk (hb); have n1_ := Aside0.mk (ho); clear HB; clear HO_3; have HB := n0_; have HO511 := n1_; clear n0_ n1_; clear ho hb hg hat))
                  go_ret
                  exact ⟨_, by first | rfl | (simp [errW_none, errW_some] <;> rfl) | (simp [*, errW_none, errW_some] <;> rfl), by (with_reducible repeat (first | apply Kd.R_alloc | apply Kd.R_drewN | apply Kd.R_drew)); exact HO511.out, by repeat (first | (with_reducible first | exact HB.out | apply below_alloc | apply pw_below_drewN | apply below_drew1) | exact HB.out)⟩
                · rw [if_neg c11] at H
                  exact absurd H (by simp)
end
end Go.Proofs.YtkdahjnmldeklaaGreat.PA
section
namespace Go.Proofs.YtkdahjnmldeklaaGreat.Pure
open Go.RowKit Go.Proofs.YtkdahjnmldeklaaGreat.PA Go.Proofs.YtkdahjnmldeklaaGreatW.PrintWords Go.Proofs.YtkdahjnmldeklaaGreatW.PrintLast Go.Proofs.YtkdahjnmldeklaaGreatW.PrintMore
set_option linter.unusedVariables false
set_option linter.unusedSimpArgs false
def rstep (out : Bool) (s : Nat) : Nat := if (s % 2 == 1) != out then (s / 2) ^^^ 3988292384 else s / 2
theorem xlc (a b c : Nat) : a ^^^ (b ^^^ c) = b ^^^ (a ^^^ c) := by rw [← Nat.xor_assoc, Nat.xor_comm a b, Nat.xor_assoc]
theorem step_xor (s c : Nat) : step (s ^^^ c) = (rstep (c % 2 == 1) s) ^^^ (c / 2) := by
  have h2 : (s ^^^ c) / 2 = (s / 2) ^^^ (c / 2) := by
    have := Nat.shiftRight_xor_distrib (a := s) (b := c) (i := 1)
    simpa [Nat.shiftRight_eq_div_pow] using this
  have h1 : (s ^^^ c) % 2 = (s % 2) ^^^ (c % 2) := by
    have := Nat.xor_mod_two_pow (a := s) (b := c) (n := 1)
    simpa using this
  unfold step rstep
  rw [h2, h1]
  rcases Nat.mod_two_eq_zero_or_one s with a | a <;> rcases Nat.mod_two_eq_zero_or_one c with b | b <;> rw [a, b]
  · simp
  · simp [Nat.xor_assoc, Nat.xor_comm]
    rw [xlc]
  · simp [Nat.xor_assoc, Nat.xor_comm]
    rw [xlc]
  · simp
def rsteps (c : Nat) : Nat → Nat → Nat → Nat
  | 0, _, s => s
  | n + 1, j, s => rsteps c n (j + 1) (rstep (c / 2 ^ j % 2 == 1) s)
theorem steps_rsteps (c : Nat) (n : Nat) : ∀ (j s : Nat), steps n (s ^^^ (c / 2 ^ j)) = (rsteps c n j s) ^^^ (c / 2 ^ (j + n)) := by
  induction n with
  | zero => intro j s; rfl
  | succ n ih =>
    intro j s
    show steps n (step (s ^^^ (c / 2 ^ j))) = _
    rw [step_xor, Nat.div_div_eq_div_mul, ← Nat.pow_succ, ih, show j.succ + n = j + (n + 1) from by omega]
    rfl
theorem steps_byte (c s : Nat) (hc : c ≤ 255) : steps 8 (s ^^^ c) = rsteps c 8 0 s := by
  have := steps_rsteps c 8 0 s
  rw [Nat.pow_zero, Nat.div_one, show c / 2 ^ (0 + 8) = 0 from by omega, Nat.xor_zero] at this
  exact this
theorem bit_of (c j : Nat) (hc : c ≤ 255) (hj : j ≤ 8) : Go.bits .and .u8 (shr .u8 (c : Int) (j : Int)) 1 = ((c / 2 ^ j % 2 : Nat) : Int) := by
  have h1 : shr .u8 (c : Int) (j : Int) = ((c / 2 ^ j : Nat) : Int) := by
    unfold shr
    rw [Int.toNat_natCast, show min j IntKind.u8.bits = j from Nat.min_eq_left hj]
    simp
  have h2 : c / 2 ^ j < 256 := Nat.lt_of_le_of_lt (Nat.div_le_self _ _) (by omega)
  rw [h1, show (1 : Int) = ((1 : Nat) : Int) from rfl, and8 _ 1 h2 (by decide), Nat.and_one_is_mod]
theorem wrap_u64_in (j : Nat) (hj : j ≤ 8) : IntKind.u64.wrap (j : Int) = j := by
  simp [IntKind.wrap, IntKind.bits, IntKind.signed]
  omega
theorem ref_l (xs : List Int) (hx : ∀ x ∈ xs, Byte x) (hl : xs.length ≤ 140737488351232) :
    ∀ (d : Nat), ∀ (n : Nat), n ≤ xs.length → d = xs.length - n → ∀ (s k : Nat), s < 4294967296 → 20 * d + 20 ≤ k →
      colloquyref08_Sum.l0 k xs s n = some (((sumN (xs.drop n) s) ^^^ 4294967295 : Nat) : Int) := by
  intro d
  induction d with
  | zero =>
    intro n hn hd s k hs hk
    obtain ⟨k, rfl⟩ : ∃ m, k = m + 1 := ⟨k - 1, by omega⟩
    have : n = xs.length := by omega
    subst this
    simp only [colloquyref08_Sum.l0]
    rw [if_neg (by omega), List.drop_length]
    show some (Go.bits .xor .u32 (s : Int) ((4294967295 : Nat) : Int)) = _
    rw [xor32 _ _ hs (by decide)]
    rfl
  | succ d ih =>
    intro n hn hd s k hs hk
    obtain ⟨k, rfl⟩ : ∃ m, k = m + 1 := ⟨k - 1, by omega⟩
    have hlt : n < xs.length := by omega
    have hb := hx _ (rd_mem xs n hlt)
    obtain ⟨c, hc⟩ : ∃ c : Nat, rd xs n = c := ⟨(rd xs n).toNat, by unfold Byte at hb; omega⟩
    have hc8 : c ≤ 255 := by unfold Byte at hb; omega
    have hinner : ∀ (m : Nat), m ≤ 8 → ∀ (s k : Nat), s < 4294967296 → 20 * d + 20 + m + 1 ≤ k →
        colloquyref08_Sum.l1 k xs s n ((8 - m : Nat) : Int) = some (((sumN (xs.drop (n + 1)) (rsteps c m (8 - m) s)) ^^^ 4294967295 : Nat) : Int) := by
      intro m
      induction m with
      | zero =>
        intro _ s k hs hk
        obtain ⟨k, rfl⟩ : ∃ m, k = m + 1 := ⟨k - 1, by omega⟩
        simp only [colloquyref08_Sum.l1]
        rw [if_neg (by omega), wrap_in (by omega) (by omega)]
        exact ih (n + 1) (by omega) (by omega) s k hs (by omega)
      | succ m ihm =>
        intro hm s k hs hk
        obtain ⟨k, rfl⟩ : ∃ m, k = m + 1 := ⟨k - 1, by omega⟩
        have hwr : (wrap64 (((8 - (m + 1) : Nat) : Int) + 1)) = ((8 - m : Nat) : Int) := by rw [wrap_in (by omega) (by omega)]; omega
        simp only [colloquyref08_Sum.l1]
        rw [if_pos (by omega), if_pos (by omega), if_pos (by omega), wrap_u64_in _ (by omega), if_pos (by omega), hc, bit_of c _ hc8 (by omega), hwr]
        have h1 : Go.bits .and .u32 (s : Int) 1 = ((s % 2 : Nat) : Int) := by
          rw [show (1 : Int) = ((1 : Nat) : Int) from rfl, and32 s 1 hs (by decide), Nat.and_one_is_mod]
        rw [h1]
        have e1 : ((((s % 2 : Nat) : Int) == 1) != (((c / 2 ^ (8 - (m + 1)) % 2 : Nat) : Int) == 1)) = ((s % 2 == 1) != (c / 2 ^ (8 - (m + 1)) % 2 == 1)) := by
          have z : ∀ n : Nat, (((n : Nat) : Int) == 1) = (n == 1) := fun n => by
            rw [Bool.eq_iff_iff, beq_iff_eq, beq_iff_eq]; omega
          rw [z, z]
        rw [e1, show ((s : Int) / 2) = ((s / 2 : Nat) : Int) from by omega, show (3988292384 : Int) = ((3988292384 : Nat) : Int) from rfl, xor32 _ _ (by omega) (by decide)]
        have hr : rsteps c (m + 1) (8 - (m + 1)) s = rsteps c m (8 - m) (rstep (c / 2 ^ (8 - (m + 1)) % 2 == 1) s) := by
          show rsteps c m (8 - (m + 1) + 1) _ = _
          rw [show 8 - (m + 1) + 1 = 8 - m from by omega]
        rw [hr]
        by_cases hcc : ((s % 2 == 1) != (c / 2 ^ (8 - (m + 1)) % 2 == 1)) = true
        · rw [if_pos hcc, ihm (by omega) _ k (Nat.xor_lt_two_pow (n := 32) (by omega) (by omega)) (by omega)]
          unfold rstep
          rw [if_pos hcc]
        · rw [if_neg hcc, ihm (by omega) _ k (by omega) (by omega)]
          unfold rstep
          rw [if_neg hcc]
    simp only [colloquyref08_Sum.l0]
    rw [if_pos (by omega)]
    have := hinner 8 (by omega) s k hs (by omega)
    rw [show ((8 - 8 : Nat) : Int) = 0 from rfl] at this
    rw [this, drop_rd xs n hlt, hc]
    show _ = some (((sumN (xs.drop (n + 1)) (steps 8 (s ^^^ (c : Int).toNat))) ^^^ 4294967295 : Nat) : Int)
    rw [Int.toNat_natCast, steps_byte c s hc8]
theorem ref_f (xs : List Int) (hx : ∀ x ∈ xs, Byte x) (hl : xs.length ≤ 140737488351232) (k : Nat) (hk : 20 * xs.length + 20 ≤ k) :
    colloquyref08_Sum.f k xs = some (((sumN xs 4294967295) ^^^ 4294967295 : Nat) : Int) := by
  unfold colloquyref08_Sum.f
  have := ref_l xs hx hl xs.length 0 (by omega) (by omega) 4294967295 k (by decide) hk
  simpa using this
theorem join_l1 (ys : List Int) (hy : ys.length ≤ 140737488355328) : ∀ (d i : Nat) (out : List Int), i ≤ ys.length → d = ys.length - i → out.length + d ≤ 140737488355328 →
    Ev (fun k => colloquyref08_Join.l1 k ys out i) (out ++ ys.drop i) := by
  intro d
  induction d with
  | zero =>
    intro i out hi hd ho
    refine Ev.step (f := fun _ => some (out ++ ys.drop i)) (fun k => ?_) (Ev.now _)
    simp only [colloquyref08_Join.l1]
    rw [if_neg (by omega), List.drop_of_length_le (by omega)]
    simp
  | succ d ih =>
    intro i out hi hd ho
    have h1 : i < ys.length := by omega
    refine Ev.step (f := fun k => colloquyref08_Join.l1 k ys (out ++ [rd ys i]) ((i + 1 : Nat) : Int)) (fun k => ?_) ?_
    · simp only [colloquyref08_Join.l1]
      rw [if_pos (by omega), if_pos (by omega), if_pos (by omega)]
      have : wrap64 ((i : Int) + 1) = ((i + 1 : Nat) : Int) := by unfold wrap64; omega
      rw [this]
    · have := ih (i + 1) (out ++ [rd ys i]) (by omega) (by omega) (by simp; omega)
      rw [drop_rd ys i h1]
      simpa using this
theorem join_l0 (xs ys : List Int) (hs : xs.length + ys.length ≤ 140737488355328) : ∀ (d i : Nat) (out : List Int), i ≤ xs.length → d = xs.length - i → out.length + d = xs.length →
    Ev (fun k => colloquyref08_Join.l0 k xs ys out i) (out ++ xs.drop i ++ ys) := by
  intro d
  induction d with
  | zero =>
    intro i out hi hd ho
    refine Ev.step (f := fun k => colloquyref08_Join.l1 k ys out 0) (fun k => ?_) ?_
    · simp only [colloquyref08_Join.l0]
      rw [if_neg (by omega)]
    · have := join_l1 ys (by omega) ys.length 0 out (by omega) (by omega) (by omega)
      rw [List.drop_of_length_le (by omega)]
      simpa using this
  | succ d ih =>
    intro i out hi hd ho
    have h1 : i < xs.length := by omega
    refine Ev.step (f := fun k => colloquyref08_Join.l0 k xs ys (out ++ [rd xs i]) ((i + 1 : Nat) : Int)) (fun k => ?_) ?_
    · simp only [colloquyref08_Join.l0]
      rw [if_pos (by omega), if_pos (by omega), if_pos (by omega)]
      have : wrap64 ((i : Int) + 1) = ((i + 1 : Nat) : Int) := by unfold wrap64; omega
      rw [this]
    · have := ih (i + 1) (out ++ [rd xs i]) (by omega) (by omega) (by simp; omega)
      rw [drop_rd xs i h1]
      simpa using this
theorem join_ev (xs ys : List Int) (hs : xs.length + ys.length ≤ 140737488355328) : Ev (fun k => colloquyref08_Join.f k xs ys) (xs ++ ys) := by
  unfold colloquyref08_Join.f
  simpa using join_l0 xs ys hs xs.length 0 [] (by omega) (by omega) (by simp)
theorem rnum_l (f : Nat) : ∀ (u : Nat) (out : List Int), u < 128 ^ (f + 1) → u ≤ 4611686018427387904 → out.length + f < 140737488355328 → Ev (fun k => colloquyref08_Num.l0 k u out) (out ++ putN (f + 1) u) := by
  induction f with
  | zero =>
    intro u out hu hm ho
    refine Ev.step (f := fun _ => some (out ++ putN 1 u)) (fun k => ?_) (Ev.now _)
    simp only [colloquyref08_Num.l0]
    rw [if_neg (by omega), if_pos (by omega)]
    unfold putN
    rw [if_neg (by omega), show ((u : Int) % 256) = u from by omega]
  | succ f ih =>
    intro u out hu hm ho
    by_cases hg : 127 < u
    · refine Ev.step (f := fun k => colloquyref08_Num.l0 k ((u / 128 : Nat) : Int) (out ++ [((u % 128 + 128 : Nat) : Int)])) (fun k => ?_) ?_
      · simp only [colloquyref08_Num.l0]
        rw [if_pos (by omega), if_pos (by omega)]
        have e1 : wrap64 (Int.tdiv (u : Int) 128) = ((u / 128 : Nat) : Int) := by
          rw [Int.tdiv_eq_ediv_of_nonneg (by omega), wrap_in (by omega) (by omega)]
          omega
        have e2 : (wrap64 ((Int.tmod (u : Int) 128) + 128)) % 256 = ((u % 128 + 128 : Nat) : Int) := by
          rw [Int.tmod_eq_emod_of_nonneg (by omega), wrap_in (by omega) (by omega)]
          omega
        rw [e1, e2]
      · have := ih (u / 128) (out ++ [((u % 128 + 128 : Nat) : Int)]) (by rw [Nat.pow_succ] at hu; omega) (by omega) (by simp; omega)
        have e : putN (f + 1 + 1) u = ((u % 128 + 128 : Nat) : Int) :: putN (f + 1) (u / 128) := by conv => lhs; unfold putN; rw [if_pos hg]
        rw [e]
        simpa using this
    · refine Ev.step (f := fun _ => some (out ++ putN (f + 1 + 1) u)) (fun k => ?_) (Ev.now _)
      simp only [colloquyref08_Num.l0]
      rw [if_neg (by omega), if_pos (by omega)]
      unfold putN
      rw [if_neg hg, show ((u : Int) % 256) = u from by omega]
theorem numOf_le (n : Int) : numOf n ≤ 4611686018427387904 := by
  unfold numOf mn mx
  split <;> split <;> omega
theorem rnum_ev (n : Int) : Ev (fun k => colloquyref08_Num.f k n) (putN 9 (numOf n)) := by
  have hend : Ev (fun k => colloquyref08_Num.l0 k (numOf n : Int) []) (putN 9 (numOf n)) := by
    have := rnum_l 8 (numOf n) [] (by have := numOf_le n; omega) (numOf_le n) (by simp)
    simpa using this
  have hj1 : Ev (fun k => colloquyref08_Num.j1 k (numOf n : Int)) (putN 9 (numOf n)) := Ev.step (fun k => by simp only [colloquyref08_Num.j1]) hend
  have hj0 : ∀ m : Int, 0 ≤ m → (numOf n : Int) = (if m > 4611686018427387904 then 4611686018427387904 else m) → Ev (fun k => colloquyref08_Num.j0 k m) (putN 9 (numOf n)) := by
    intro m h0 hm
    refine Ev.step (f := fun k => colloquyref08_Num.j1 k (numOf n : Int)) (fun k => ?_) hj1
    simp only [colloquyref08_Num.j0]
    rw [hm]
    split <;> rfl
  unfold colloquyref08_Num.f
  by_cases h : n < 0
  · refine Ev.congr (fun k => if_pos h) (hj0 0 (by omega) ?_)
    rw [if_neg (by omega)]
    unfold numOf mn mx
    split <;> split <;> omega
  · refine Ev.congr (fun k => if_neg h) (hj0 n (by omega) ?_)
    unfold numOf mn mx
    split <;> (try split) <;> (try split) <;> omega
theorem rsum_ev (xs : List Int) (hx : ∀ x ∈ xs, Byte x) (hl : xs.length ≤ 140737488351232) : Ev (fun k => colloquyref08_Sum.f k xs) (crc xs : Int) := ⟨20 * xs.length + 20, fun k hk => ref_f xs hx hl k hk⟩
theorem rfour_eq (n : Nat) (h : n ≤ 9223372036854775807) : colloquyref08_four.f (n : Int) = some (le4 n) := by
  unfold colloquyref08_four.f le4
  have e : ∀ m : Nat, m ≤ 9223372036854775807 → (Int.tmod (m : Int) 256) % 256 = ((m % 256 : Nat) : Int) := fun m hm => by
    rw [Int.tmod_eq_emod_of_nonneg (by omega)]
    omega
  have d : ∀ q : Nat, 0 < q → wrap64 (Int.tdiv (n : Int) (q : Int)) = ((n / q : Nat) : Int) := fun q hq => by
    have hle : n / q ≤ n := Nat.div_le_self _ _
    rw [Int.tdiv_eq_ediv_of_nonneg (by omega), ← Int.natCast_ediv]
    generalize n / q = z at hle
    exact wrap_in (by omega) (by omega)
  have d1 := d 256 (by decide)
  have d2 := d 65536 (by decide)
  have d3 := d 16777216 (by decide)
  simp only [Int.cast_ofNat_Int] at d1 d2 d3
  rw [d1, d2, d3, e n h, e (n / 256) (by omega), e (n / 65536) (by omega), e (n / 16777216) (by omega)]
theorem rrecord_ev (p : List Int) (hp : ∀ x ∈ p, Byte x) (hl : p.length ≤ 1000000) : Ev (fun k => colloquyref08_Record.f k p) (recOf p) := by
  unfold colloquyref08_Record.f
  have hc := crc_lt p hp
  refine Ev.congr (f := fun k => (some (le4 p.length)).bind fun t => (colloquyref08_Sum.f k p).bind fun s => (colloquyref08_four.f (wrap64 s)).bind fun u => (colloquyref08_Join.f k t u).bind fun j => (colloquyref08_Join.f k j p).bind fun r => some r) (fun k => by rw [rfour_eq _ (by omega)]) ?_
  simp only [Option.bind_some]
  refine Ev.bind (rsum_ev p hp (by omega)) ?_
  rw [wrap_in (by omega) (by omega), rfour_eq _ (by omega)]
  simp only [Option.bind_some]
  refine Ev.bind (join_ev _ _ (by simp [le4])) (Ev.bind (join_ev _ _ (by simp [le4]; omega)) (Ev.now _))
end Go.Proofs.YtkdahjnmldeklaaGreat.Pure
namespace Go.Proofs.YtkdahjnmldeklaaGreat.PA
open Go.RowKit Go.Proofs.YtkdahjnmldeklaaGreatW.PrintWords Go.Proofs.YtkdahjnmldeklaaGreatW.PrintLast Go.Proofs.YtkdahjnmldeklaaGreatW.PrintMore
set_option linter.unusedVariables false
set_option linter.unusedSimpArgs false
theorem rnum_own (n : Int) (w : World) : Calls Tryz.prog 72 #[.int .i64 n] w fun e w' => ∃ A' c' S, e = .returned (.slice A' (encN n).length c') ∧ Out w w' (fun _ => False) [Chunk.row (Kd.int .u8) 5 w.heap.size S (.slice A' (encN n).length c') (encN n)] := by
  obtain ⟨k, hk⟩ := Pure.rnum_ev n
  refine (colloquyref08_Num.calls k n _ w (by exact hk k (Nat.le_refl _))).mono ?_
  rintro e w' ⟨v, rfl, hR, hb⟩
  obtain ⟨A', c', rfl⟩ := Kd.R_slice hR
  exact ⟨A', c', _, rfl, Out.row hR hb⟩
theorem rjoin_own (A1 : Option Addr) (c1 : Nat) (xs : List Int) (A2 : Option Addr) (c2 : Nat) (ys : List Int) (w : World) (hx : Kd.C (Kd.int .u8) w A1 xs.length xs) (hcx : xs.length ≤ c1) (hy : Kd.C (Kd.int .u8) w A2 ys.length ys) (hcy : ys.length ≤ c2) (h : xs.length + ys.length ≤ 140737488355328) :
    Calls Tryz.prog 71 #[.slice A1 xs.length c1, .slice A2 ys.length c2] w fun e w' => ∃ A' c' S, e = .returned (.slice A' (xs ++ ys).length c') ∧ Out w w' (fun _ => False) [Chunk.row (Kd.int .u8) 5 w.heap.size S (.slice A' (xs ++ ys).length c') (xs ++ ys)] := by
  obtain ⟨k, hk⟩ := Pure.join_ev xs ys h
  refine (colloquyref08_Join.calls k A1 c1 xs A2 c2 ys _ w hx hcx hy hcy (by exact hk k (Nat.le_refl _))).mono ?_
  rintro e w' ⟨v, rfl, hR, hb⟩
  obtain ⟨A', c', rfl⟩ := Kd.R_slice hR
  exact ⟨A', c', _, rfl, Out.row hR hb⟩
theorem rrecord_own (A : Option Addr) (c : Nat) (xs : List Int) (w : World) (hr : Kd.C (Kd.int .u8) w A xs.length xs) (hc : xs.length ≤ c) (hb : ByteL xs) (h : xs.length ≤ 1000000) :
    Calls Tryz.prog 70 #[.slice A xs.length c] w fun e w' => ∃ A' c' S, e = .returned (.slice A' (Pure.recOf xs).length c') ∧ Out w w' (fun _ => False) [Chunk.row (Kd.int .u8) 5 w.heap.size S (.slice A' (Pure.recOf xs).length c') (Pure.recOf xs)] := by
  obtain ⟨k, hk⟩ := Pure.rrecord_ev xs (byteL_byte hb) h
  refine (colloquyref08_Record.calls k A c xs _ w hr hc (by exact hk k (Nat.le_refl _))).mono ?_
  rintro e w' ⟨v, rfl, hR, hb⟩
  obtain ⟨A', c', rfl⟩ := Kd.R_slice hR
  exact ⟨A', c', _, rfl, Out.row hR hb⟩
theorem rsum_own (A : Option Addr) (c : Nat) (xs : List Int) (w : World) (hr : Kd.C (Kd.int .u8) w A xs.length xs) (hc : xs.length ≤ c) (hb : ByteL xs) (h : xs.length ≤ 140737488351232) :
    Calls Tryz.prog 79 #[.slice A xs.length c] w fun e w' => e = .returned (.int .u32 (Pure.crc xs : Int)) ∧ Below w.heap.size w w' := by
  obtain ⟨k, hk⟩ := Pure.rsum_ev xs (byteL_byte hb) h
  refine (colloquyref08_Sum.calls k A c xs _ w hr hc (by exact hk k (Nat.le_refl _))).mono ?_
  rintro e w' ⟨rfl, hd⟩
  exact ⟨rfl, hd.below⟩
theorem rfour_own (n : Nat) (w : World) (h : n ≤ 9223372036854775807) : Calls Tryz.prog 78 #[.int .i64 (n : Int)] w fun e w' => ∃ A' c' S, e = .returned (.slice A' (Pure.le4 n).length c') ∧ Out w w' (fun _ => False) [Chunk.row (Kd.int .u8) 5 w.heap.size S (.slice A' (Pure.le4 n).length c') (Pure.le4 n)] := by
  refine (colloquyref08_four.calls (n : Int) _ w (Pure.rfour_eq n h)).mono ?_
  rintro e w' ⟨v, rfl, hR, hb⟩
  obtain ⟨A', c', rfl⟩ := Kd.R_slice hR
  exact ⟨A', c', _, rfl, Out.row hR hb⟩
end Go.Proofs.YtkdahjnmldeklaaGreat.PA
end
namespace Go.Proofs.YtkdahjnmldeklaaGreat.PA
open Go.RowKit Go.Proofs.YtkdahjnmldeklaaGreatW.PrintWords Go.Proofs.YtkdahjnmldeklaaGreatW.PrintLast Go.Proofs.YtkdahjnmldeklaaGreatW.PrintMore
set_option linter.unusedVariables false
set_option linter.unusedSimpArgs false
set_option maxRecDepth 100000
set_option maxHeartbeats 8000000
section
open Go.Maps
def anyR (v : Value) : Option (DataW Value × List MemPlace) := some (.held v, [])
def held1 (p : Lit × Value) : Lit × DataW Value := (p.1, .held p.2)
def lmap (L : List (Lit × Value)) : DataW Value := .map (L.map held1)
def linsert (x : Lit × Value) : List (Lit × Value) → List (Lit × Value)
  | [] => [x]
  | y :: r => if x.1.before y.1 then x :: y :: r else y :: linsert x r
def ldel (k : Lit) (L : List (Lit × Value)) : List (Lit × Value) := L.filter fun p => !p.1.sameKey k
def lput (k : Lit) (v : Value) (L : List (Lit × Value)) : List (Lit × Value) := linsert (k, v) (ldel k L)
def lfind (k : Lit) (L : List (Lit × Value)) : Option Value := (L.find? fun p => p.1.sameKey k).map (·.2)
theorem linsert_map (x : Lit × Value) : ∀ L, (linsert x L).map held1 = DataW.insert (held1 x) (L.map held1)
  | [] => rfl
  | y :: r => by
    unfold linsert
    rw [List.map_cons, DataW.insert]
    show List.map held1 (if _ then _ else _) = if x.1.before y.1 then _ else _
    split
    · rfl
    · rw [List.map_cons, linsert_map x r]
theorem lmap_put (k : Lit) (v : Value) (L : List (Lit × Value)) : (lmap L).put k (.held v) = lmap (lput k v L) := by
  show DataW.map (DataW.insert (k, .held v) ((L.map held1).filter fun p => !p.1.sameKey k)) = DataW.map ((linsert (k, v) (L.filter fun p => !p.1.sameKey k)).map held1)
  rw [linsert_map, List.filter_map]
  rfl
theorem lmap_has (k : Lit) (L : List (Lit × Value)) : has (lmap L) k = (lfind k L).isSome := by
  show (L.map held1).any (fun p => p.1.sameKey k) = _
  unfold lfind
  rw [List.any_map, Option.isSome_map]
  show L.any (fun p => p.1.sameKey k) = _
  cases h : L.any (fun p => p.1.sameKey k)
  · rw [List.find?_eq_none.2 (fun p hp => by simpa using (List.any_eq_false.1 h) p hp)]; rfl
  · exact (List.find?_isSome.2 (by simpa using h)).symm
theorem lmap_at (k : Lit) (z : Value) (L : List (Lit × Value)) : (lmap L).atKey k (.held z) = .held ((lfind k L).getD z) := by
  have e : (L.map held1).find? (fun p => p.1.sameKey k) = (L.find? fun p => p.1.sameKey k).map held1 := by rw [List.find?_map]; rfl
  unfold lmap DataW.atKey lfind
  simp only [e]
  cases L.find? (fun p => p.1.sameKey k) <;> rfl
theorem lmap_size (L : List (Lit × Value)) : size (lmap L) = L.length := by simp [lmap, size]
theorem owns_fit {P : Program} {K : TypeId} {w : World} {b n : Nat} {L : List (Lit × Value)} (h : w.ownsMap P K anyR b n (lmap L)) : w.ownsMap P K anyR b L.length (lmap L) := by
  obtain ⟨es, clock, hb, F, hs, hD⟩ := h
  refine ⟨es, clock, hb, F, ?_, hD⟩
  have e1 : (L.map held1) = (es.toList.map (Go.WideElems.rg P K anyR)).foldr DataW.insert [] := by injection hD
  have e2 := congrArg List.length e1
  rw [length_sorted] at e2
  simp at e2
  omega
def Chunk.lmap (P : Program) (K : TypeId) (b : Nat) (L : List (Lit × Value)) : Chunk := ⟨fun k => k = b, fun w => w.ownsMap P K anyR b L.length (PA.lmap L), fun h hm => by
  obtain ⟨es, clock, hb, F, hs, hD⟩ := h
  exact ⟨es, clock, (hm b rfl).trans hb, F, hs, hD⟩⟩
section
variable {D : List Deferred} {P : Program} {ops : Array Oper} {Q : Exit → Act → World → Prop} {rest : List Oper} {o : Oper} {N dd : Nat} {a : Act} {F : List (Nat × Value)} {w w0 : World} {L : List Chunk} {K e t b : Nat} {M : List (Lit × Value)} {key : Value} {kl : Lit} {m x v : Operand}
theorem FrD.putn (HF : FrD D N a F) (v : Value) : FrD D N (a.put none v) F := HF
theorem gw_mkmap (HF : FrD D N a F) (HO : Own w0 w L) (hw : Region.wanted o (yielded ops a.tmps) = true) (hd : o.dst = some dd) (hN : dd < N) (ho : o.op = .makeMap t none)
    (k : ∀ g a' w1, FrD D N a' ((dd, .map (some g)) :: F) → Own w0 w1 (Chunk.lmap P K g [] :: L) → wpList P ops Q rest a' w1) : wpList P ops Q (o :: rest) a w := by
  refine gw_ev HF hw hd hN (v := .map (some w.heap.size)) (w1 := w.alloc (.map #[] 0)) ?_ fun a' HF' => k _ a' _ HF' ?_
  · unfold Runs execOp
    simp only [ho]
    rfl
  · exact HO.fresh (cs := [_]) (Out.one (Out.of_below (below_alloc (Below.refl _ _) _) _) (c := Chunk.lmap P K w.heap.size []) (World.ownsMap_made _ _ _ _) (fun k hk => by
      obtain rfl : k = w.heap.size := hk
      exact ⟨.inr (Nat.le_refl _), by simp⟩))
theorem gw_mput (i : Nat) (KL : Keyed P K) (ht : P.underlying t = some (.map K e)) (HF : FrD D N a F) (HO : Own w0 w L) (hi : L[i]? = some (Chunk.lmap P K b M)) (hw : Region.wanted o (yielded ops a.tmps) = true) (hd : o.dst = none) (ho : o.op = .mapUpdate t m x v)
    {val : Value} (hm : a.eval m = .map (some b)) (hx : a.eval x = key) (hv : a.eval v = val) (hkey : keyOf P K key = some kl) (hn : M.length < 9223372036854775807)
    (k : ∀ a' w1, FrD D N a' F → Own w0 w1 (L.set i (Chunk.lmap P K b (lput kl val M))) → wpList P ops Q rest a' w1) : wpList P ops Q (o :: rest) a w := by
  have hown : w.ownsMap P K anyR b M.length (lmap M) := HO.get i hi
  refine gw_unguard hw ?_
  refine wpList_mapUpdate_own w rfl m x v t ho K e KL ht _ b M.length _ hm hown (by simp only [maxLen]; omega) key val kl hx hv hkey (.held val) [] rfl ?_
  intro w1 h1 hg
  show wpList P ops Q rest (a.put o.dst _) w1
  rw [hd]
  refine k _ w1 (HF.putn _) (HO.calls (cs := []) i hi (Out.one ((Out.refl w _).grown hg (fun k e => .inl (by injection e with e; exact e.symm))) ?_ (fun k hk => ⟨.inl hk, Nat.lt_of_lt_of_le (HO.lt i hi hk).2 hg.size⟩)))
  rw [lmap_put] at h1
  exact owns_fit h1
theorem op_mlookok {z : Value} (KL : Keyed P K) (ht : P.underlying t = some (.map K e)) (hz : ∀ w, (zeroValue e).run P w = .ok z w) (ho : o.op = .lookup t m x true) (hm : a.eval m = .map (some b)) (hx : a.eval x = key) (hkey : keyOf P K key = some kl) (hown : (Chunk.lmap P K b M).P w) :
    Runs P o a w (.tuple #[(lfind kl M).getD z, .bool (lfind kl M).isSome]) w := by
  have h1 : w.ownsMap P K anyR b M.length (lmap M) := hown
  obtain ⟨v, ps, hrun, hv⟩ := h1.look_ok KL ht (hz w) (zd := .held z) (zp := []) rfl hkey
  rw [lmap_at] at hv
  rw [lmap_has] at hrun
  have e1 : v = (lfind kl M).getD z := by
    have := congrArg (Option.map Prod.fst) hv
    injection this with this
    injection this
  subst e1
  unfold Runs execOp
  simp [ho, hm, hx, hrun, Result.andThen]
theorem op_mlook {z : Value} (KL : Keyed P K) (ht : P.underlying t = some (.map K e)) (hz : ∀ w, (zeroValue e).run P w = .ok z w) (ho : o.op = .lookup t m x false) (hm : a.eval m = .map (some b)) (hx : a.eval x = key) (hkey : keyOf P K key = some kl) (hown : (Chunk.lmap P K b M).P w) :
    Runs P o a w ((lfind kl M).getD z) w := by
  have h1 : w.ownsMap P K anyR b M.length (lmap M) := hown
  obtain ⟨v, ps, hrun, hv⟩ := h1.lookup KL ht (hz w) (zd := .held z) (zp := []) rfl hkey
  rw [lmap_at] at hv
  have e1 : v = (lfind kl M).getD z := by
    have := congrArg (Option.map Prod.fst) hv
    injection this with this
    injection this
  subst e1
  unfold Runs execOp
  simp [ho, hm, hx, hrun, Result.andThen]
end
section
variable {P : Program} {o : Oper} {a : Act} {w : World} {K e t b : Nat} {M : List (Lit × Value)} {key z v : Value} {kl : Lit} {m x y : Operand}
theorem op_ml_some (KL : Keyed P K) (ht : P.underlying t = some (.map K e)) (hz : ∀ w, (zeroValue e).run P w = .ok z w) (ho : o.op = .lookup t m x false) (hm : a.eval m = .map (some b)) (hx : a.eval x = key) (hkey : keyOf P K key = some kl) (hown : (Chunk.lmap P K b M).P w) (h : lfind kl M = some v) : Runs P o a w v w := by
  have := op_mlook KL ht hz ho hm hx hkey hown
  rwa [h] at this
theorem op_ml_none (KL : Keyed P K) (ht : P.underlying t = some (.map K e)) (hz : ∀ w, (zeroValue e).run P w = .ok z w) (ho : o.op = .lookup t m x false) (hm : a.eval m = .map (some b)) (hx : a.eval x = key) (hkey : keyOf P K key = some kl) (hown : (Chunk.lmap P K b M).P w) (h : lfind kl M = none) : Runs P o a w z w := by
  have := op_mlook KL ht hz ho hm hx hkey hown
  rwa [h] at this
theorem op_mlok_some (KL : Keyed P K) (ht : P.underlying t = some (.map K e)) (hz : ∀ w, (zeroValue e).run P w = .ok z w) (ho : o.op = .lookup t m x true) (hm : a.eval m = .map (some b)) (hx : a.eval x = key) (hkey : keyOf P K key = some kl) (hown : (Chunk.lmap P K b M).P w) (h : lfind kl M = some v) : Runs P o a w (.tuple #[v, .bool true]) w := by
  have := op_mlookok KL ht hz ho hm hx hkey hown
  rwa [h] at this
theorem op_mlok_none (KL : Keyed P K) (ht : P.underlying t = some (.map K e)) (hz : ∀ w, (zeroValue e).run P w = .ok z w) (ho : o.op = .lookup t m x true) (hm : a.eval m = .map (some b)) (hx : a.eval x = key) (hkey : keyOf P K key = some kl) (hown : (Chunk.lmap P K b M).P w) (h : lfind kl M = none) : Runs P o a w (.tuple #[z, .bool false]) w := by
  have := op_mlookok KL ht hz ho hm hx hkey hown
  rwa [h] at this
theorem op_nep_nil {ad : Addr} {e yt : TypeId} (ht : P.underlying t = some (.pointer e)) (ho : o.op = .binOp .neq t x (.const (.pointer none)) yt) (hx : a.eval x = .pointer (some ad)) : Runs P o a w (.bool true) w := by
  unfold Runs execOp
  simp only [ho, hx]
  simp [go_sem, Act.eval, ht]
theorem op_eqp_nils {e yt : TypeId} (ht : P.underlying t = some (.pointer e)) (ho : o.op = .binOp .eql t x (.const (.pointer none)) yt) (hx : a.eval x = .pointer none) : Runs P o a w (.bool true) w := by
  unfold Runs execOp
  simp only [ho, hx]
  simp [go_sem, Act.eval, ht]
theorem op_nep_nils {e yt : TypeId} (ht : P.underlying t = some (.pointer e)) (ho : o.op = .binOp .neq t x (.const (.pointer none)) yt) (hx : a.eval x = .pointer none) : Runs P o a w (.bool false) w := by
  unfold Runs execOp
  simp only [ho, hx]
  simp [go_sem, Act.eval, ht]
end
theorem lmap_arg {P : Program} {K b : Nat} {M : List (Lit × Value)} {w0 w : World} {L : List Chunk} (HO : Own w0 w L) (h : (Chunk.lmap P K b M).P w0) : (Chunk.lmap P K b M).P w :=
  (Chunk.lmap P K b M).move h fun k hk => by
    obtain rfl : k = b := hk
    exact HO.below.block _ (World.ownsMap.lt h)
def risingL (L : List (Lit × Value)) : Prop := L.Pairwise fun p q => p.1.before q.1 = true
theorem lmap_rising {P : Program} {K b : Nat} {w : World} {L : List (Lit × Value)} (KL : Keyed P K) (h : (Chunk.lmap P K b L).P w) : risingL L ∧ ∀ p ∈ L, KeysOf P K p.1 := by
  obtain ⟨es, clock, hb, F, hs, hD⟩ := h
  have e1 : (L.map held1) = (es.toList.map (Go.WideElems.rg P K anyR)).foldr DataW.insert [] := by injection hD
  have hk : ∀ p ∈ L.map held1, KeysOf P K p.1 := fun p hp => Go.Maps.fit_keys F p (by rw [e1] at hp; exact (Go.WideShapes.sorted_perm _).mem_iff.1 hp)
  have hs2 : (L.map held1).Pairwise (fun p q => p.1.before q.1 = true) := by
    rw [e1]
    exact Go.Maps.sorted_sorted KL.one _ (fun p hp => Go.Maps.fit_keys F p hp) (Go.Maps.fit_apart KL F)
  exact ⟨by simpa [risingL, List.pairwise_map, held1] using hs2, fun p hp => hk (held1 p) (List.mem_map_of_mem hp)⟩
end
section
open Go.Maps
def litS (s : ByteArray) : Lit := .string s.data.toList
theorem litS_inj {s t : ByteArray} (h : litS s = litS t) : s = t := by
  have : s.data.toList = t.data.toList := by injection h
  have := Array.toList_inj.1 this
  cases s; cases t; simp_all
theorem litS_same (s t : ByteArray) : (litS s).sameKey (litS t) = decide (s = t) := by
  show (s.data.toList == t.data.toList) = _
  by_cases h : s = t
  · subst h; simp
  · rw [decide_eq_false h]
    simp only [beq_eq_false_iff_ne, ne_eq]
    intro e
    exact h (litS_inj (congrArg Lit.string e))
structure PF where
  nm : ByteArray
  b : List Int
  sf : Int
structure PD where
  fs : List PF
  most : Int
  used : Int
  fuse : Int
  down : Bool
structure XF where
  p : PF
  g : Nat
  A : Option Addr
  c : Nat
  S : Nat → Prop
def XF.ent (x : XF) : Lit × Value := (litS x.p.nm, .pointer (some ⟨x.g, 0, none⟩))
def getF (nm : ByteArray) (fs : List PF) : Option PF := fs.find? fun f => decide (f.nm = nm)
def updF (nm : ByteArray) (h : PF → PF) (fs : List PF) : List PF := fs.map fun f => if f.nm = nm then h f else f
def delF (nm : ByteArray) (fs : List PF) : List PF := fs.filter fun f => !decide (f.nm = nm)
def insF (f : PF) : List PF → List PF
  | [] => [f]
  | y :: r => if (litS f.nm).before (litS y.nm) then f :: y :: r else y :: insF f r
def insX (x : XF) : List XF → List XF
  | [] => [x]
  | y :: r => if (litS x.p.nm).before (litS y.p.nm) then x :: y :: r else y :: insX x r
theorem insX_p (x : XF) : ∀ l, (insX x l).map XF.p = insF x.p (l.map XF.p)
  | [] => rfl
  | y :: r => by
    unfold insX
    rw [List.map_cons, insF]
    split
    · rfl
    · rw [List.map_cons, insX_p x r]
theorem insX_ent (x : XF) : ∀ l, (insX x l).map XF.ent = linsert x.ent (l.map XF.ent)
  | [] => rfl
  | y :: r => by
    unfold insX
    rw [List.map_cons, linsert]
    show _ = if (litS x.p.nm).before (litS y.p.nm) then _ else _
    split
    · rfl
    · rw [List.map_cons, insX_ent x r]
theorem insX_perm (x : XF) : ∀ l, (insX x l).Perm (x :: l)
  | [] => List.Perm.refl _
  | y :: r => by
    unfold insX
    split
    · exact List.Perm.refl _
    · exact ((insX_perm x r).cons y).trans (List.Perm.swap x y r)
def delX (nm : ByteArray) (xs : List XF) : List XF := xs.filter fun x => !decide (x.p.nm = nm)
theorem delX_p (nm : ByteArray) (xs : List XF) : (delX nm xs).map XF.p = delF nm (xs.map XF.p) := by
  unfold delX delF
  rw [List.filter_map]
  rfl
theorem delX_ent (nm : ByteArray) (xs : List XF) : (delX nm xs).map XF.ent = ldel (litS nm) (xs.map XF.ent) := by
  unfold delX ldel
  rw [List.filter_map]
  congr 1
  refine List.filter_congr fun x _ => ?_
  show _ = !(litS x.p.nm).sameKey (litS nm)
  rw [litS_same]
def onceX (xs : List XF) : Prop := xs.Pairwise fun x y => x.p.nm ≠ y.p.nm
theorem once_of_rising {xs : List XF} (h : risingL (xs.map XF.ent)) : onceX xs := by
  have := List.pairwise_map.1 h
  refine this.imp fun {x y} hb e => ?_
  have hb' : (litS x.p.nm).before (litS y.p.nm) = true := hb
  rw [e, Go.WideShapes.before_irrefl] at hb'
  cases hb'
theorem look_cases (nm : ByteArray) {xs : List XF} (h : onceX xs) : (lfind (litS nm) (xs.map XF.ent) = none ∧ getF nm (xs.map XF.p) = none ∧ ∀ x ∈ xs, x.p.nm ≠ nm) ∨
    ∃ pre x post, xs = pre ++ x :: post ∧ x.p.nm = nm ∧ lfind (litS nm) (xs.map XF.ent) = some (.pointer (some ⟨x.g, 0, none⟩)) ∧ getF nm (xs.map XF.p) = some x.p ∧ (∀ y ∈ pre ++ post, y.p.nm ≠ nm) := by
  have e1 : lfind (litS nm) (xs.map XF.ent) = (xs.find? fun x => decide (x.p.nm = nm)).map fun x => .pointer (some ⟨x.g, 0, none⟩) := by
    unfold lfind
    rw [List.find?_map, Option.map_map]
    congr 1
    congr 1
    funext x
    exact litS_same _ _
  have e2 : getF nm (xs.map XF.p) = (xs.find? fun x => decide (x.p.nm = nm)).map XF.p := by
    unfold getF
    rw [List.find?_map]
    rfl
  rw [e1, e2]
  cases hf : xs.find? fun x => decide (x.p.nm = nm) with
  | none =>
    refine .inl ⟨rfl, rfl, fun x hx => ?_⟩
    have := List.find?_eq_none.1 hf x hx
    simpa using this
  | some x =>
    obtain ⟨hx, pre, post, rfl, hpre⟩ := List.find?_eq_some_iff_append.1 hf
    have hx : x.p.nm = nm := by simpa using hx
    refine .inr ⟨pre, x, post, rfl, hx, rfl, rfl, fun y hy => ?_⟩
    rcases List.mem_append.1 hy with hy | hy
    · simpa using hpre y hy
    · obtain ⟨_, h2, _⟩ := List.pairwise_append.1 h
      have := (List.pairwise_cons.1 h2).1 y hy
      rw [hx] at this
      exact fun e => this e.symm
theorem upd_mid {nm : ByteArray} {h : PF → PF} {pre post : List XF} {x : XF} (hx : x.p.nm = nm) (ho : ∀ y ∈ pre ++ post, y.p.nm ≠ nm) : updF nm h ((pre ++ x :: post).map XF.p) = pre.map XF.p ++ h x.p :: post.map XF.p := by
  have hs : ∀ l : List XF, (∀ y ∈ l, y.p.nm ≠ nm) → updF nm h (l.map XF.p) = l.map XF.p := fun l hl => by
    unfold updF
    rw [List.map_map]
    exact List.map_congr_left fun y hy => if_neg (hl y hy)
  have e1 := hs pre fun y hy => ho y (List.mem_append_left _ hy)
  have e2 := hs post fun y hy => ho y (List.mem_append_right _ hy)
  unfold updF at e1 e2 ⊢
  rw [List.map_append, List.map_cons, List.map_append, List.map_cons, e1, e2, if_pos hx]
theorem delX_none {nm : ByteArray} {xs : List XF} (ho : ∀ y ∈ xs, y.p.nm ≠ nm) : delX nm xs = xs := List.filter_eq_self.2 fun y hy => by simp [ho y hy]
def namedB (s : ByteArray) : Bool := decide (1 ≤ s.size) && decide (s.size ≤ 40)
def stepD (d : PD) (k : PD → PD) : PD × Int := if 0 < d.fuse then (if d.fuse = 1 then ({ d with fuse := 0, down := true }, 70) else (k { d with fuse := d.fuse - 1 }, 0)) else (k d, 0)
def newD (room : Int) : PD := ⟨[], mx room 0, 0, 0, false⟩
def createD (nm : ByteArray) (d : PD) : PD × Int :=
  if d.down = true then (d, 70) else if namedB nm = false then (d, 1) else if (getF nm d.fs).isSome = true then (d, 5) else stepD d fun d => { d with fs := insF ⟨nm, [], 0⟩ (delF nm d.fs) }
def withF (nm : ByteArray) (d : PD) (k : PF → PD × Int) : PD × Int := if d.down = true then (d, 70) else match getF nm d.fs with | none => (d, 4) | some f => k f
def appendD (nm : ByteArray) (y : List Int) (d : PD) : PD × Int :=
  withF nm d fun _ => if d.most - d.used < y.length then (d, 71) else stepD d fun d => { d with fs := updF nm (fun f => { f with b := f.b ++ y }) d.fs, used := d.used + y.length }
def syncD (nm : ByteArray) (d : PD) : PD × Int := withF nm d fun _ => stepD d fun d => { d with fs := updF nm (fun f => { f with sf := f.b.length }) d.fs }
def dropD (nm : ByteArray) (d : PD) : PD := match getF nm d.fs with | none => d | some f => { d with fs := delF nm d.fs, used := d.used - f.b.length }
def removeD (nm : ByteArray) (d : PD) : PD × Int := withF nm d fun _ => stepD d (dropD nm)
def renameD (from_ dest : ByteArray) (d : PD) : PD × Int :=
  if d.down = true then (d, 70) else if namedB dest = false then (d, 1) else match getF from_ d.fs with
    | none => (d, 4)
    | some f => stepD d fun d => if from_ = dest then d else { dropD dest d with fs := insF { f with nm := dest } (delF dest (delF from_ (dropD dest d).fs)) }
def cutD (nm : ByteArray) (n : Int) (d : PD) : PD × Int :=
  withF nm d fun f => if n < 0 ∨ (f.b.length : Int) < n then (d, 1) else stepD d fun d => { d with fs := updF nm (fun f => { f with b := f.b.take n.toNat, sf := mn f.sf n }) d.fs, used := d.used - (f.b.length - n) }
def crashF : List PF → List Int → List PF × Int
  | [], _ => ([], 0)
  | f :: r, keep =>
    if (f.b.length : Int) - f.sf = 0 then (f :: (crashF r keep).1, (crashF r keep).2)
    else
      let loose := (f.b.length : Int) - f.sf
      let n := match keep with | [] => 0 | k :: _ => mn (mx k 0) loose
      let q := crashF r (keep.drop 1)
      ({ f with b := f.b.take (f.sf + n).toNat, sf := f.sf + n } :: q.1, loose - n + q.2)
def crashD (keep : List Int) (d : PD) : PD := { d with down := false, fuse := 0, fs := (crashF d.fs keep).1, used := d.used - (crashF d.fs keep).2 }
def readD (nm : ByteArray) (d : PD) : List Int × Int := if d.down = true then ([], 70) else match getF nm d.fs with | none => ([], 4) | some f => (f.b, 0)
structure wfD (d : PD) : Prop where
  used : d.used = ((d.fs.map fun f => f.b.length).sum : Nat)
  most : d.used ≤ d.most ∧ d.most ≤ 9223372036854775807
  fuse : 0 ≤ d.fuse ∧ d.fuse ≤ 9223372036854775807
  sf : ∀ f ∈ d.fs, 0 ≤ f.sf ∧ f.sf ≤ f.b.length
  nm : ∀ f ∈ d.fs, f.nm.size ≤ 40
  ris : d.fs.Pairwise fun a b => (litS a.nm).before (litS b.nm) = true
def XF.cells (x : XF) : Array Value := #[.slice x.A x.p.b.length x.c, .int .i64 x.p.sf]
def Chunk.fblk (x : XF) : Chunk := Chunk.blk x.g (.cells x.cells 74 (0, 0))
def Chunk.frow (base : Nat) (x : XF) : Chunk := Chunk.row (Kd.int .u8) 5 base x.S (.slice x.A x.p.b.length x.c) x.p.b
def Chunk.file (base : Nat) (x : XF) : Chunk := Chunk.all [Chunk.fblk x, Chunk.frow base x]
def Chunk.files (base : Nat) (xs : List XF) : Chunk := Chunk.all (xs.map (Chunk.file base))
def dcells (gm : Nat) (d : PD) : Array Value := #[.map (some gm), .int .i64 d.most, .int .i64 d.used, .int .i64 d.fuse, .bool d.down]
def diskL (base gd gm : Nat) (d : PD) (xs : List XF) : List Chunk := [Chunk.blk gd (.cells (dcells gm d) 64 (0, 0)), Chunk.lmap Tryz.prog 9 gm (xs.map XF.ent), Chunk.files base xs]
def Chunk.disk (base gd : Nat) (S : Nat → Prop) (d : PD) : Chunk := ⟨S, fun w => ∃ gm xs, xs.map XF.p = d.fs ∧ (Chunk.all (diskL base gd gm d xs)).P w ∧ ∀ k, (Chunk.all (diskL base gd gm d xs)).S k → S k, fun h hm => by
  obtain ⟨gm, xs, h1, h2, h3⟩ := h
  exact ⟨gm, xs, h1, (Chunk.all _).move h2 (fun k hk => hm k (h3 k hk)), h3⟩⟩
theorem strKey : Keyed Tryz.prog 9 := string_keyed Tryz.underlying9
theorem keyS {s : ByteArray} (h : s.size ≤ 9223372036854775807) : keyOf Tryz.prog 9 (.string s) = some (litS s) := Go.WideMaps.keyOf_string_mk Tryz.underlying9 (by simpa only [maxLen] using h)
section
variable {w0 w : World} {base gd gm : Nat} {S : Nat → Prop} {d : PD} {L A B : List Chunk} {xs pre post : List XF} {x x' : XF}
theorem Own.perm (h : Own w0 w A) (hp : A.Perm B) : Own w0 w B :=
  ⟨h.below, fun c hc => h.holds c (hp.mem_iff.2 hc), fun c hc => h.inside c (hp.mem_iff.2 hc), (hp.pairwise_iff (fun {a b} hab => ap_symm a b hab)).1 h.apart⟩
theorem Own.allPerm (h : Own w0 w (Chunk.all A :: L)) (hp : A.Perm B) : Own w0 w (Chunk.all B :: L) := (h.unbundle.perm (hp.append_right L)).bundle
theorem Own.disk_open (h : Own w0 w (Chunk.disk base gd S d :: L)) : ∃ gm xs, xs.map XF.p = d.fs ∧ onceX xs ∧ Own w0 w (diskL base gd gm d xs ++ L) := by
  obtain ⟨gm, xs, h1, h2, h3⟩ := h.get 0 rfl
  have h4 : Own w0 w (Chunk.all (diskL base gd gm d xs) :: L) := h.calls (cs := []) 0 rfl (Out.one (Out.refl w _) h2 fun k hk => ⟨.inl (h3 k hk), (h.lt 0 rfl (h3 k hk)).2⟩)
  have h5 := h4.unbundle
  exact ⟨gm, xs, h1, once_of_rising (lmap_rising strKey (h5.get 1 rfl)).1, h5⟩
theorem Own.disk_close (h : Own w0 w (diskL base gd gm d xs ++ L)) (hx : xs.map XF.p = d.fs) : ∃ S, Own w0 w (Chunk.disk base gd S d :: L) := by
  have h1 := h.bundle
  exact ⟨(Chunk.all (diskL base gd gm d xs)).S, h1.calls (cs := []) 0 rfl (Out.one (Out.refl w _) (c := Chunk.disk base gd (Chunk.all (diskL base gd gm d xs)).S d) ⟨gm, xs, hx, h1.get 0 rfl, fun k hk => hk⟩ fun k hk => ⟨.inl hk, (h1.lt 0 rfl hk).2⟩)⟩
theorem Own.file_open (h : Own w0 w (Chunk.files base (pre ++ x :: post) :: L)) : Own w0 w (Chunk.fblk x :: Chunk.frow base x :: Chunk.files base (pre ++ post) :: L) := by
  have h1 : Own w0 w (Chunk.all (Chunk.file base x :: (pre ++ post).map (Chunk.file base)) :: L) := by
    refine Own.allPerm (A := (pre ++ x :: post).map (Chunk.file base)) h ?_
    rw [← List.map_cons]
    exact (List.perm_middle).map _
  have h2 : Own w0 w (Chunk.file base x :: ((pre ++ post).map (Chunk.file base) ++ L)) := h1.unbundle
  have h3 : Own w0 w ([Chunk.fblk x, Chunk.frow base x] ++ ((pre ++ post).map (Chunk.file base) ++ L)) := h2.unbundle
  have h4 : Own w0 w ((pre ++ post).map (Chunk.file base) ++ (Chunk.fblk x :: Chunk.frow base x :: L)) := h3.perm (by
    exact List.perm_append_comm_assoc [Chunk.fblk x, Chunk.frow base x] _ L)
  exact h4.bundle.perm ((List.Perm.swap _ _ _).trans ((List.Perm.swap _ _ _).cons _))
theorem Own.file_close (h : Own w0 w (Chunk.fblk x :: Chunk.frow base x :: Chunk.files base (pre ++ post) :: L)) : Own w0 w (Chunk.files base (pre ++ x :: post) :: L) := by
  have h1 : Own w0 w (Chunk.files base (pre ++ post) :: (Chunk.fblk x :: Chunk.frow base x :: L)) := h.perm (((List.Perm.swap _ _ _).cons _).trans (List.Perm.swap _ _ _))
  have h2 : Own w0 w ((pre ++ post).map (Chunk.file base) ++ (Chunk.fblk x :: Chunk.frow base x :: L)) := h1.unbundle
  have h3 : Own w0 w ([Chunk.fblk x, Chunk.frow base x] ++ ((pre ++ post).map (Chunk.file base) ++ L)) := h2.perm (by
    exact List.perm_append_comm_assoc _ [Chunk.fblk x, Chunk.frow base x] L)
  have h4 : Own w0 w (Chunk.file base x :: ((pre ++ post).map (Chunk.file base) ++ L)) := h3.bundle
  have h5 : Own w0 w (Chunk.all (Chunk.file base x :: (pre ++ post).map (Chunk.file base)) :: L) := Own.bundle (A := _ :: _) h4
  refine Own.allPerm h5 ?_
  rw [← List.map_cons]
  exact (List.perm_middle.symm).map _
theorem Own.files_perm {ys : List XF} (h : Own w0 w (Chunk.files base xs :: L)) (hp : xs.Perm ys) : Own w0 w (Chunk.files base ys :: L) := Own.allPerm h (hp.map _)
theorem Own.files_nil (h : Own w0 w L) (base : Nat) : Own w0 w (Chunk.files base [] :: L) :=
  h.fresh (cs := [_]) (Out.one (Out.refl w _) (c := Chunk.files base []) ⟨fun c hc => by simp at hc, by simp⟩ (fun k hk => by obtain ⟨c, hc, _⟩ := hk; simp at hc))
theorem Own.row_take {α : Type} {d : Kd α} {e base n c : Nat} {S : Nat → Prop} {A : Option Addr} {xs : List α} (h : Own w0 w L) (i : Nat) (hi : L[i]? = some (Chunk.row d e base S (.slice A n c) xs)) (m : Nat) (hm : m ≤ xs.length) : Own w0 w (L.set i (Chunk.row d e base S (.slice A m c) (xs.take m))) :=
  h.mapc i hi (fun _ hk => hk) (fun _ hr => Kd.R_take hr hm)
end
end
section
open Go.Maps
theorem named_i (s : ByteArray) : (decide ((1 : Int) ≤ (s.size : Int)) && decide ((s.size : Int) ≤ 40)) = namedB s := by
  unfold namedB
  congr 1 <;> (rw [decide_eq_decide]; omega)
def decF (n : Int) : Int := if 0 < n then n - 1 else n
section
variable {d : PD} {k : PD → PD} {nm to_ : ByteArray} {f : PF} {y : List Int} {n : Int} {q : PF → PD × Int}
theorem step_off (h : d.fuse = 1) : stepD d k = ({ d with fuse := 0, down := true }, 70) := by
  unfold stepD
  rw [if_pos (by omega), if_pos h]
theorem step_on (h : d.fuse ≠ 1) (h0 : 0 ≤ d.fuse) : stepD d k = (k { d with fuse := decF d.fuse }, 0) := by
  unfold stepD decF
  by_cases h1 : 0 < d.fuse
  · rw [if_pos h1, if_neg h, if_pos h1]
  · rw [if_neg h1, if_neg h1]
theorem create_down (h : d.down = true) : createD nm d = (d, 70) := if_pos h
theorem create_bad (h : d.down = false) (hb : namedB nm = false) : createD nm d = (d, 1) := by
  unfold createD
  rw [if_neg (by simp [h]), if_pos hb]
theorem create_twice (h : d.down = false) (hb : namedB nm = true) (hg : getF nm d.fs = some f) : createD nm d = (d, 5) := by
  unfold createD
  rw [if_neg (by simp [h]), if_neg (by simp [hb]), if_pos (by rw [hg]; rfl)]
theorem create_go (h : d.down = false) (hb : namedB nm = true) (hg : getF nm d.fs = none) : createD nm d = stepD d fun d => { d with fs := insF ⟨nm, [], 0⟩ (delF nm d.fs) } := by
  unfold createD
  rw [if_neg (by simp [h]), if_neg (by simp [hb]), if_neg (by simp [hg])]
theorem with_down (h : d.down = true) : withF nm d q = (d, 70) := if_pos h
theorem with_none (h : d.down = false) (hg : getF nm d.fs = none) : withF nm d q = (d, 4) := by
  unfold withF
  rw [if_neg (by simp [h]), hg]
theorem with_some (h : d.down = false) (hg : getF nm d.fs = some f) : withF nm d q = q f := by
  unfold withF
  rw [if_neg (by simp [h]), hg]
theorem append_full (h : d.down = false) (hg : getF nm d.fs = some f) (hr : d.most - d.used < y.length) : appendD nm y d = (d, 71) := (with_some h hg).trans (if_pos hr)
theorem append_go (h : d.down = false) (hg : getF nm d.fs = some f) (hr : ¬ d.most - d.used < y.length) : appendD nm y d = stepD d fun d => { d with fs := updF nm (fun f => { f with b := f.b ++ y }) d.fs, used := d.used + y.length } := (with_some h hg).trans (if_neg hr)
theorem sync_go (h : d.down = false) (hg : getF nm d.fs = some f) : syncD nm d = stepD d fun d => { d with fs := updF nm (fun f => { f with sf := f.b.length }) d.fs } := with_some h hg
theorem cut_bad (h : d.down = false) (hg : getF nm d.fs = some f) (hn : n < 0 ∨ (f.b.length : Int) < n) : cutD nm n d = (d, 1) := (with_some h hg).trans (if_pos hn)
theorem cut_go (h : d.down = false) (hg : getF nm d.fs = some f) (hn : ¬ (n < 0 ∨ (f.b.length : Int) < n)) : cutD nm n d = stepD d fun d => { d with fs := updF nm (fun f => { f with b := f.b.take n.toNat, sf := mn f.sf n }) d.fs, used := d.used - (f.b.length - n) } := (with_some h hg).trans (if_neg hn)
theorem remove_go (h : d.down = false) (hg : getF nm d.fs = some f) : removeD nm d = stepD d (dropD nm) := with_some h hg
theorem rename_down (h : d.down = true) : renameD nm to_ d = (d, 70) := if_pos h
theorem rename_bad (h : d.down = false) (hb : namedB to_ = false) : renameD nm to_ d = (d, 1) := by
  unfold renameD
  rw [if_neg (by simp [h]), if_pos hb]
theorem rename_none (h : d.down = false) (hb : namedB to_ = true) (hg : getF nm d.fs = none) : renameD nm to_ d = (d, 4) := by
  unfold renameD
  rw [if_neg (by simp [h]), if_neg (by simp [hb]), hg]
def renK (nm to_ : ByteArray) (f : PF) (d : PD) : PD := if nm = to_ then d else { dropD to_ d with fs := insF { f with nm := to_ } (delF to_ (delF nm (dropD to_ d).fs)) }
theorem rename_go (h : d.down = false) (hb : namedB to_ = true) (hg : getF nm d.fs = some f) : renameD nm to_ d = stepD d (renK nm to_ f) := by
  unfold renameD
  rw [if_neg (by simp [h]), if_neg (by simp [hb]), hg]
  rfl
theorem drop_none (hg : getF nm d.fs = none) : dropD nm d = d := by
  unfold dropD
  rw [hg]
theorem drop_some (hg : getF nm d.fs = some f) : dropD nm d = { d with fs := delF nm d.fs, used := d.used - f.b.length } := by
  unfold dropD
  rw [hg]
end
section
variable {w0 w : World} {base gd gm : Nat} {S : Nat → Prop} {d d' : PD} {R : Chunk} {xs : List XF} {r : PD × Int} {c : Int}
theorem disk_open2 (h : Own w0 w [R, Chunk.disk base gd S d]) : ∃ gm xs, xs.map XF.p = d.fs ∧ onceX xs ∧ Own w0 w (R :: diskL base gd gm d xs) := by
  obtain ⟨gm, xs, h1, h2, h3⟩ := Own.disk_open (L := [R]) (h.sel [1, 0] (by decide))
  exact ⟨gm, xs, h1, h2, h3.sel [3, 0, 1, 2] (by decide)⟩
theorem disk_close2 (hx : xs.map XF.p = d.fs) (h : Own w0 w (R :: diskL base gd gm d xs)) : ∃ S, Own w0 w [R, Chunk.disk base gd S d] := by
  obtain ⟨S, h1⟩ := Own.disk_close (L := [R]) (d := d) (xs := xs) (gm := gm) (gd := gd) (base := base) (h.sel [1, 2, 3, 0] (by decide)) hx
  exact ⟨S, h1.sel [1, 0] (by decide)⟩
theorem disk_fin (hr : r = (d', c)) (hx : xs.map XF.p = d'.fs) (h : Own w0 w (R :: diskL base gd gm d' xs)) : (Ending.returned (.int .i64 c) = Ending.returned (.int .i64 r.2)) ∧ ∃ S, Own w0 w [R, Chunk.disk base gd S r.1] := by
  rw [hr]
  exact ⟨rfl, disk_close2 hx h⟩
theorem look3 (nm : ByteArray) (d : PD) {xs : List XF} (hx : xs.map XF.p = d.fs) (h : onceX xs) : d.down = true ∨ (d.down = false ∧ lfind (litS nm) (xs.map XF.ent) = none ∧ getF nm d.fs = none ∧ ∀ x ∈ xs, x.p.nm ≠ nm) ∨
    (d.down = false ∧ ∃ pre x post, xs = pre ++ x :: post ∧ x.p.nm = nm ∧ lfind (litS nm) (xs.map XF.ent) = some (.pointer (some ⟨x.g, 0, none⟩)) ∧ getF nm d.fs = some x.p ∧ (∀ y ∈ pre ++ post, y.p.nm ≠ nm)) := by
  cases hd : d.down
  · rw [← hx]
    rcases look_cases nm h with h1 | h1
    · exact .inr (.inl ⟨rfl, h1⟩)
    · exact .inr (.inr ⟨rfl, h1⟩)
  · exact .inl rfl
theorem total_mid {pre post : List PF} {f : PF} : ((pre ++ f :: post).map fun f => f.b.length).sum = ((pre ++ post).map fun f => f.b.length).sum + f.b.length := by
  simp only [List.map_append, List.map_cons, List.sum_append, List.sum_cons]
  omega
theorem wf_len (h : wfD d) {f : PF} (hf : f ∈ d.fs) : (f.b.length : Int) ≤ d.used := by
  obtain ⟨pre, post, e⟩ := List.append_of_mem hf
  have := h.used
  rw [e, total_mid] at this
  omega
theorem getF_mem {nm : ByteArray} {fs : List PF} {f : PF} (h : getF nm fs = some f) : f ∈ fs ∧ f.nm = nm := by
  refine ⟨List.mem_of_find?_eq_some h, ?_⟩
  simpa using List.find?_some h
end
theorem bytes_ext {s t : ByteArray} (h : s.toList = t.toList) : s = t := by
  rw [ByteArray.toList_eq, ByteArray.toList_eq] at h
  exact litS_inj (congrArg Lit.string h)
theorem Own.row_takeL {α : Type} {d : Kd α} {e base n c : Nat} {S : Nat → Prop} {A : Option Addr} {xs : List α} {w0 w : World} {L : List Chunk} (h : Own w0 w L) (i : Nat) (hi : L[i]? = some (Chunk.row d e base S (.slice A n c) xs)) (m : Nat) (hm : m ≤ xs.length) : Own w0 w (L.set i (Chunk.row d e base S (.slice A (xs.take m).length c) (xs.take m))) := by
  have := h.row_take i hi m hm
  rwa [show (xs.take m).length = m by rw [List.length_take]; omega]
theorem disk_blk {base gd : Nat} {S : Nat → Prop} {d : PD} {w : World} (h : (Chunk.disk base gd S d).P w) : ∃ gm xs, xs.map XF.p = d.fs ∧ onceX xs ∧ w.heap[gd]? = some (.cells (dcells gm d) 64 (0, 0)) ∧ (Chunk.lmap Tryz.prog 9 gm (xs.map XF.ent)).P w ∧ ∀ x ∈ xs, w.heap[x.g]? = some (.cells x.cells 74 (0, 0)) ∧ (Kd.int .u8).C w x.A x.p.b.length x.p.b ∧ x.p.b.length ≤ x.c := by
  obtain ⟨gm, xs, h1, h2, h3⟩ := h
  have hl : (Chunk.lmap Tryz.prog 9 gm (xs.map XF.ent)).P w := h2.1 _ (by simp [diskL])
  refine ⟨gm, xs, h1, once_of_rising (lmap_rising strKey hl).1, h2.1 (Chunk.blk gd _) (by simp [diskL]), hl, fun x hx => ?_⟩
  have hf : (Chunk.files base xs).P w := h2.1 _ (by simp [diskL])
  have hx2 : (Chunk.file base x).P w := hf.1 _ (List.mem_map_of_mem hx)
  have hr : (Kd.int .u8).R 5 w base x.S (.slice x.A x.p.b.length x.c) x.p.b := hx2.1 (Chunk.frow base x) (by simp)
  exact ⟨hx2.1 (Chunk.fblk x) (by simp), (Kd.R_reads' hr).2.2, row_cap hr⟩
theorem read_down {d : PD} {nm : ByteArray} (h : d.down = true) : readD nm d = ([], 70) := if_pos h
theorem read_none {d : PD} {nm : ByteArray} (h : d.down = false) (hg : getF nm d.fs = none) : readD nm d = ([], 4) := by
  unfold readD
  rw [if_neg (by simp [h]), hg]
theorem read_some {d : PD} {nm : ByteArray} {f : PF} (h : d.down = false) (hg : getF nm d.fs = some f) : readD nm d = (f.b, 0) := by
  unfold readD
  rw [if_neg (by simp [h]), hg]
def namesD (d : PD) : List ByteArray := d.fs.map PF.nm
def keepN (kl : List Int) (loose : Int) : Int := match kl with | [] => 0 | k :: _ => mn (mx k 0) loose
theorem crash_nil (kl : List Int) : crashF [] kl = ([], 0) := rfl
theorem crash_keep {f : PF} {r : List PF} {kl : List Int} (h : (f.b.length : Int) - f.sf = 0) : crashF (f :: r) kl = (f :: (crashF r kl).1, (crashF r kl).2) := by
  rw [crashF, if_pos h]
theorem crash_cut {f : PF} {r : List PF} {kl : List Int} (h : ¬ (f.b.length : Int) - f.sf = 0) : crashF (f :: r) kl = ({ f with b := f.b.take (f.sf + keepN kl ((f.b.length : Int) - f.sf)).toNat, sf := f.sf + keepN kl ((f.b.length : Int) - f.sf) } :: (crashF r (kl.drop 1)).1, (f.b.length : Int) - f.sf - keepN kl ((f.b.length : Int) - f.sf) + (crashF r (kl.drop 1)).2) := by
  rw [crashF, if_neg h]
  rfl
theorem keepN_in (kl : List Int) {loose : Int} (h : 0 ≤ loose) : 0 ≤ keepN kl loose ∧ keepN kl loose ≤ loose := by
  unfold keepN
  split
  · omega
  · unfold mn mx
    (repeat' split) <;> omega
theorem crash_used : ∀ (fs : List PF) (kl : List Int), (∀ f ∈ fs, 0 ≤ f.sf ∧ f.sf ≤ f.b.length) → 0 ≤ (crashF fs kl).2
  | [], _, _ => Int.le_refl _
  | f :: r, kl, h => by
    have h1 := h f (List.mem_cons_self ..)
    have hr : ∀ kl, 0 ≤ (crashF r kl).2 := fun kl => crash_used r kl fun g hg => h g (List.mem_cons_of_mem _ hg)
    by_cases hl : (f.b.length : Int) - f.sf = 0
    · rw [crash_keep hl]; exact hr kl
    · rw [crash_cut hl]
      have := keepN_in kl (loose := (f.b.length : Int) - f.sf) (by omega)
      have := hr (kl.drop 1)
      show 0 ≤ _ + _
      omega
theorem totalX_mid {pre post : List XF} {f : XF} : ((pre ++ f :: post).map fun f => f.p.b.length).sum = ((pre ++ post).map fun f => f.p.b.length).sum + f.p.b.length := by
  simp only [List.map_append, List.map_cons, List.sum_append, List.sum_cons]
  omega
theorem look_mid {pre post : List XF} {x : XF} (h : onceX (pre ++ x :: post)) : lfind (litS x.p.nm) ((pre ++ x :: post).map XF.ent) = some (.pointer (some ⟨x.g, 0, none⟩)) := by
  have hp : ∀ y ∈ pre, y.p.nm ≠ x.p.nm := fun y hy => (List.pairwise_append.1 h).2.2 y hy x (List.mem_cons_self ..)
  unfold lfind
  rw [List.find?_map, List.find?_append]
  have e1 : pre.find? ((fun p => p.1.sameKey (litS x.p.nm)) ∘ XF.ent) = none := List.find?_eq_none.2 fun y hy => by
    show ¬ (litS y.p.nm).sameKey (litS x.p.nm) = true
    rw [litS_same]
    simpa using hp y hy
  have e2 : ((fun p => p.1.sameKey (litS x.p.nm)) ∘ XF.ent) x = true := by
    show (litS x.p.nm).sameKey (litS x.p.nm) = true
    rw [litS_same]
    simp
  rw [e1, List.find?_cons_of_pos e2]
  rfl
theorem once_same {pre post : List XF} {x y : XF} (h : onceX (pre ++ x :: post)) (e : y.p.nm = x.p.nm) : onceX (pre ++ y :: post) := by
  have h1 : ((pre ++ x :: post).map fun x => x.p.nm).Pairwise (· ≠ ·) := List.pairwise_map.2 h
  have e1 : ((pre ++ y :: post).map fun x => x.p.nm) = ((pre ++ x :: post).map fun x => x.p.nm) := by simp [e]
  rw [← e1] at h1
  exact List.pairwise_map.1 h1
theorem keepN_pos {kl : List Int} {loose : Int} (h : 0 < kl.length) : mn (mx (kl.getD (0 : Int).toNat (0 : Int)) 0) loose = keepN kl loose := by
  cases kl with
  | nil => simp at h
  | cons a r => rfl
theorem keepN_zero {kl : List Int} {loose : Int} (h : kl.length = 0) : keepN kl loose = 0 := by
  cases kl with
  | nil => rfl
  | cons a r => simp at h
theorem crash_go {x : PF} {r : List PF} {kl kl2 : List Int} {n : Int} (h : ¬ (x.b.length : Int) - x.sf = 0) (hn : keepN kl ((x.b.length : Int) - x.sf) = n) (hk : kl.drop 1 = kl2) :
    crashF (x :: r) kl = ({ x with b := x.b.take (x.sf + n).toNat, sf := x.sf + n } :: (crashF r kl2).1, (x.b.length : Int) - x.sf - n + (crashF r kl2).2) := by
  subst hn hk
  exact crash_cut h
theorem str_openF {w : World} {ok : Nat → Prop} {m : ByteArray} {cs : List Value} (h : Kd.FK Kd.string w ok m cs) : cs = [.string m] := Kd.FK_now h
end
section
open Go.Maps
abbrev risF (fs : List PF) : Prop := fs.Pairwise fun a b => (litS a.nm).before (litS b.nm) = true
def totF (fs : List PF) : Nat := (fs.map fun f => f.b.length).sum
section
variable {fs pre post : List PF} {f : PF} {nm : ByteArray} {h : PF → PF} {d : PD} {k : PD → PD} {n : Int} {y keep : List Int}
theorem bef_ne {a b : ByteArray} (h : (litS a).before (litS b) = true) : a ≠ b := fun e => by
  rw [e, Go.WideShapes.before_irrefl] at h
  cases h
theorem bef_total {a b : ByteArray} (h : a ≠ b) : (litS a).before (litS b) = true ∨ (litS b).before (litS a) = true :=
  Go.WideAt.bytes_total a.data.toList b.data.toList fun e => h (litS_inj (congrArg Lit.string e))
theorem get_split (hr : risF fs) (hg : getF nm fs = some f) : ∃ pre post, fs = pre ++ f :: post ∧ f.nm = nm ∧ ∀ g ∈ pre ++ post, g.nm ≠ nm := by
  obtain ⟨hf, pre, post, rfl, hp⟩ := List.find?_eq_some_iff_append.1 hg
  have hf : f.nm = nm := by simpa using hf
  refine ⟨pre, post, rfl, hf, fun g hg2 => ?_⟩
  rcases List.mem_append.1 hg2 with h1 | h1
  · simpa using hp g h1
  · have h2 := (List.pairwise_cons.1 (List.pairwise_append.1 hr).2.1).1 g h1
    rw [← hf]
    exact fun e => bef_ne h2 e.symm
theorem get_none (hg : getF nm fs = none) : ∀ g ∈ fs, g.nm ≠ nm := fun g hg2 => by simpa using List.find?_eq_none.1 hg g hg2
theorem upd_split (hf : f.nm = nm) (ho : ∀ g ∈ pre ++ post, g.nm ≠ nm) : updF nm h (pre ++ f :: post) = pre ++ h f :: post := by
  have hs : ∀ l : List PF, (∀ y ∈ l, y.nm ≠ nm) → updF nm h l = l := fun l hl => by
    unfold updF
    exact (List.map_congr_left fun y hy => if_neg (hl y hy)).trans (List.map_id' _)
  have e1 := hs pre fun y hy => ho y (List.mem_append_left _ hy)
  have e2 := hs post fun y hy => ho y (List.mem_append_right _ hy)
  unfold updF at e1 e2 ⊢
  rw [List.map_append, List.map_cons, e1, e2, if_pos hf]
theorem del_split (hf : f.nm = nm) (ho : ∀ g ∈ pre ++ post, g.nm ≠ nm) : delF nm (pre ++ f :: post) = pre ++ post := by
  have hs : ∀ l : List PF, (∀ y ∈ l, y.nm ≠ nm) → delF nm l = l := fun l hl => List.filter_eq_self.2 fun y hy => by simp [hl y hy]
  have e1 := hs pre fun y hy => ho y (List.mem_append_left _ hy)
  have e2 := hs post fun y hy => ho y (List.mem_append_right _ hy)
  unfold delF at e1 e2 ⊢
  rw [List.filter_append, List.filter_cons, e1, e2]
  simp [hf]
theorem del_none (ho : ∀ g ∈ fs, g.nm ≠ nm) : delF nm fs = fs := List.filter_eq_self.2 fun y hy => by simp [ho y hy]
theorem del_mem (g : PF) (hg : g ∈ delF nm fs) : g ∈ fs ∧ g.nm ≠ nm := by
  have := List.mem_filter.1 hg
  exact ⟨this.1, by simpa using this.2⟩
theorem ins_perm (f : PF) : ∀ l, (insF f l).Perm (f :: l)
  | [] => List.Perm.refl _
  | y :: r => by
    unfold insF
    split
    · exact List.Perm.refl _
    · exact ((ins_perm f r).cons y).trans (List.Perm.swap f y r)
theorem ins_ris : ∀ {l : List PF}, risF l → (∀ g ∈ l, g.nm ≠ f.nm) → risF (insF f l)
  | [], _, _ => List.pairwise_singleton _ _
  | y :: r, h, hn => by
    obtain ⟨h1, h2⟩ := List.pairwise_cons.1 h
    unfold insF
    split
    · rename_i hb
      refine List.pairwise_cons.2 ⟨fun g hg => ?_, h⟩
      rcases List.mem_cons.1 hg with rfl | hg
      · exact hb
      · exact Go.WideShapes.before_trans hb (h1 g hg)
    · rename_i hb
      have hyf : (litS y.nm).before (litS f.nm) = true := by
        rcases bef_total (hn y (List.mem_cons_self ..)) with h3 | h3
        · exact h3
        · exact absurd h3 hb
      refine List.pairwise_cons.2 ⟨fun g hg => ?_, ins_ris h2 fun g hg => hn g (List.mem_cons_of_mem _ hg)⟩
      rcases List.mem_cons.1 ((ins_perm f r).mem_iff.1 hg) with rfl | hg
      · exact hyf
      · exact h1 g hg
theorem ris_names {fs' : List PF} (h : risF fs) (e : fs'.map PF.nm = fs.map PF.nm) : risF fs' := by
  have h1 : (fs.map PF.nm).Pairwise (fun a b => (litS a).before (litS b) = true) := List.pairwise_map.2 h
  rw [← e] at h1
  exact List.pairwise_map.1 h1
theorem tot_perm {fs' : List PF} (h : fs.Perm fs') : totF fs = totF fs' := (h.map _).sum_nat
theorem tot_mid : totF (pre ++ f :: post) = totF (pre ++ post) + f.b.length := total_mid
theorem f0 : (0 : Int) ≤ 0 ∧ (0 : Int) ≤ 9223372036854775807 := ⟨by decide, by decide⟩
theorem wf_fuse (hw : wfD d) (h : 0 ≤ n ∧ n ≤ 9223372036854775807) : wfD { d with fuse := n } := ⟨hw.used, hw.most, h, hw.sf, hw.nm, hw.ris⟩
theorem wf_new (h : n ≤ 9223372036854775807) : wfD (newD n) := ⟨rfl, by show 0 ≤ mx n 0 ∧ mx n 0 ≤ _; unfold mx; split <;> omega, f0, fun f hf => by simp [newD] at hf, fun f hf => by simp [newD] at hf, List.Pairwise.nil⟩
theorem wf_step (hw : wfD d) (hk : ∀ d, wfD d → wfD (k d)) : wfD (stepD d k).1 := by
  by_cases h1 : d.fuse = 1
  · rw [step_off h1]
    exact ⟨hw.used, hw.most, f0, hw.sf, hw.nm, hw.ris⟩
  · rw [step_on h1 hw.fuse.1]
    refine hk _ (wf_fuse hw ?_)
    have := hw.fuse
    unfold decF
    split <;> omega
theorem wf_stepF (hw : wfD d) (hk : ∀ d1 : PD, d1.fs = d.fs → d1.used = d.used → d1.most = d.most → wfD d1 → wfD (k d1)) : wfD (stepD d k).1 := by
  by_cases h1 : d.fuse = 1
  · rw [step_off h1]
    exact ⟨hw.used, hw.most, f0, hw.sf, hw.nm, hw.ris⟩
  · rw [step_on h1 hw.fuse.1]
    refine hk _ rfl rfl rfl (wf_fuse hw ?_)
    have := hw.fuse
    unfold decF
    split <;> omega
theorem wf_create (hw : wfD d) : wfD (createD nm d).1 := by
  cases hd : d.down
  · cases hb : namedB nm
    · rw [create_bad hd hb]; exact hw
    · cases hg : getF nm d.fs with
      | some f => rw [create_twice hd hb hg]; exact hw
      | none =>
        rw [create_go hd hb hg]
        refine wf_stepF hw fun d1 h1 h2 h3 hw1 => ?_
        have ho : ∀ g ∈ d1.fs, g.nm ≠ nm := by rw [h1]; exact get_none hg
        rw [del_none ho]
        have hp := ins_perm ⟨nm, [], 0⟩ d1.fs
        refine ⟨?_, hw1.most, hw1.fuse, fun f hf => ?_, fun f hf => ?_, ins_ris hw1.ris ho⟩
        · have := tot_perm hp
          show d1.used = (totF (insF ⟨nm, [], 0⟩ d1.fs) : Nat)
          rw [this, hw1.used]
          unfold totF
          simp
        · rcases List.mem_cons.1 (hp.mem_iff.1 hf) with rfl | hf
          · exact ⟨Int.le_refl _, Int.le_refl _⟩
          · exact hw1.sf f hf
        · rcases List.mem_cons.1 (hp.mem_iff.1 hf) with rfl | hf
          · unfold namedB at hb
            simp only [Bool.and_eq_true, decide_eq_true_eq] at hb
            exact hb.2
          · exact hw1.nm f hf
  · rw [create_down hd]; exact hw
theorem wf_upd (hw : wfD d) (hg : getF nm d.fs = some f) {u : Int} (hn : (h f).nm = f.nm) (hu : u = d.used + (h f).b.length - f.b.length) (hum : u ≤ d.most) (hsf : 0 ≤ (h f).sf ∧ (h f).sf ≤ (h f).b.length) : wfD { d with fs := updF nm h d.fs, used := u } := by
  obtain ⟨pre, post, e, hf, ho⟩ := get_split hw.ris hg
  have eu := hw.used
  have em := hw.most
  have e1 : updF nm h d.fs = pre ++ h f :: post := by rw [e, upd_split hf ho]
  have t0 : ((d.fs.map fun f => f.b.length).sum : Nat) = totF (pre ++ post) + f.b.length := by rw [e]; exact tot_mid
  refine ⟨?_, ⟨hum, em.2⟩, hw.fuse, fun g hg => ?_, fun g hg => ?_, ?_⟩
  · show u = (totF (updF nm h d.fs) : Nat)
    rw [e1, tot_mid]
    omega
  · have hg : g ∈ updF nm h d.fs := hg
    rw [e1] at hg
    rcases List.mem_append.1 hg with h1 | h1
    · exact hw.sf g (by rw [e]; exact List.mem_append_left _ h1)
    · rcases List.mem_cons.1 h1 with rfl | h1
      · exact hsf
      · exact hw.sf g (by rw [e]; exact List.mem_append_right _ (List.mem_cons_of_mem _ h1))
  · have hg : g ∈ updF nm h d.fs := hg
    rw [e1] at hg
    rcases List.mem_append.1 hg with h1 | h1
    · exact hw.nm g (by rw [e]; exact List.mem_append_left _ h1)
    · rcases List.mem_cons.1 h1 with rfl | h1
      · rw [hn]; exact hw.nm f (by rw [e]; simp)
      · exact hw.nm g (by rw [e]; exact List.mem_append_right _ (List.mem_cons_of_mem _ h1))
  · refine ris_names hw.ris ?_
    show (updF nm h d.fs).map PF.nm = _
    rw [e1, e]
    simp [hn]
theorem get_sf (hw : wfD d) (hg : getF nm d.fs = some f) : 0 ≤ f.sf ∧ f.sf ≤ f.b.length := hw.sf f (getF_mem hg).1
theorem wf_append (hw : wfD d) : wfD (appendD nm y d).1 := by
  cases hd : d.down
  · cases hg : getF nm d.fs with
    | none => exact (congrArg wfD (congrArg Prod.fst (with_none hd hg))).mpr hw
    | some f =>
      by_cases hr : d.most - d.used < y.length
      · rw [append_full hd hg hr]; exact hw
      · rw [append_go hd hg hr]
        refine wf_stepF hw fun d1 h1 h2 h3 hw1 => ?_
        have := get_sf hw hg
        refine wf_upd hw1 (f := f) (by rw [h1]; exact hg) rfl ?_ ?_ ?_
        · show _ = _ + ((f.b ++ y).length : Int) - _
          rw [List.length_append]; omega
        · rw [h2, h3]; omega
        · show 0 ≤ f.sf ∧ f.sf ≤ ((f.b ++ y).length : Int)
          rw [List.length_append]; omega
  · exact (congrArg wfD (congrArg Prod.fst (with_down hd))).mpr hw
theorem wf_sync (hw : wfD d) : wfD (syncD nm d).1 := by
  cases hd : d.down
  · cases hg : getF nm d.fs with
    | none => exact (congrArg wfD (congrArg Prod.fst (with_none hd hg))).mpr hw
    | some f =>
      rw [sync_go hd hg]
      refine wf_stepF hw fun d1 h1 h2 h3 hw1 => ?_
      exact wf_upd (h := fun f => { f with sf := f.b.length }) hw1 (f := f) (by rw [h1]; exact hg) rfl (by show d1.used = d1.used + (f.b.length : Int) - f.b.length; omega) hw1.most.1 ⟨by show (0 : Int) ≤ f.b.length; omega, Int.le_refl _⟩
  · exact (congrArg wfD (congrArg Prod.fst (with_down hd))).mpr hw
theorem wf_cut (hw : wfD d) : wfD (cutD nm n d).1 := by
  cases hd : d.down
  · cases hg : getF nm d.fs with
    | none => exact (congrArg wfD (congrArg Prod.fst (with_none hd hg))).mpr hw
    | some f =>
      by_cases hr : n < 0 ∨ (f.b.length : Int) < n
      · rw [cut_bad hd hg hr]; exact hw
      · rw [cut_go hd hg hr]
        refine wf_stepF hw fun d1 h1 h2 h3 hw1 => ?_
        have hs := get_sf hw hg
        have hl : ((f.b.take n.toNat).length : Int) = n := by rw [List.length_take]; omega
        have hg1 : getF nm d1.fs = some f := by rw [h1]; exact hg
        have hu : d1.used - ((f.b.length : Int) - n) = d1.used + ((f.b.take n.toNat).length : Int) - f.b.length := by rw [hl]; omega
        have hum : d1.used - ((f.b.length : Int) - n) ≤ d1.most := by have := hw1.most; omega
        refine wf_upd (h := fun f => { f with b := f.b.take n.toNat, sf := mn f.sf n }) hw1 (f := f) hg1 rfl ?_ ?_ ?_
        · rw [h2] at hu ⊢
          exact hu
        · exact hum
        · show 0 ≤ mn f.sf n ∧ mn f.sf n ≤ ((f.b.take n.toNat).length : Int)
          rw [hl]
          unfold mn
          split <;> omega
  · exact (congrArg wfD (congrArg Prod.fst (with_down hd))).mpr hw
theorem crash_names : ∀ (fs : List PF) (kl : List Int), (crashF fs kl).1.map PF.nm = fs.map PF.nm
  | [], _ => rfl
  | f :: r, kl => by
    by_cases hl : (f.b.length : Int) - f.sf = 0
    · rw [crash_keep hl, List.map_cons, List.map_cons, crash_names r kl]
    · rw [crash_cut hl, List.map_cons, List.map_cons, crash_names r (kl.drop 1)]
theorem crash_in : ∀ (fs : List PF) (kl : List Int), (∀ f ∈ fs, 0 ≤ f.sf ∧ f.sf ≤ f.b.length) → (∀ g ∈ (crashF fs kl).1, 0 ≤ g.sf ∧ g.sf ≤ g.b.length) ∧ ((totF (crashF fs kl).1 : Nat) : Int) = (totF fs : Nat) - (crashF fs kl).2
  | [], _, _ => ⟨fun g hg => by simp [crashF] at hg, by simp [crashF]⟩
  | f :: r, kl, h => by
    have hf := h f (List.mem_cons_self ..)
    have ih : ∀ kl, _ := fun kl => crash_in r kl fun g hg => h g (List.mem_cons_of_mem _ hg)
    have ht : ∀ (g : PF) (l : List PF), totF (g :: l) = g.b.length + totF l := fun g l => by unfold totF; simp
    by_cases hl : (f.b.length : Int) - f.sf = 0
    · rw [crash_keep hl]
      obtain ⟨i1, i2⟩ := ih kl
      refine ⟨fun g hg => ?_, ?_⟩
      · rcases List.mem_cons.1 hg with rfl | hg
        · exact hf
        · exact i1 g hg
      · show ((totF (f :: (crashF r kl).1) : Nat) : Int) = (totF (f :: r) : Nat) - (crashF r kl).2
        rw [ht, ht]
        omega
    · rw [crash_cut hl]
      obtain ⟨i1, i2⟩ := ih (kl.drop 1)
      have hk := keepN_in kl (loose := (f.b.length : Int) - f.sf) (by omega)
      have hlen : ((f.b.take (f.sf + keepN kl ((f.b.length : Int) - f.sf)).toNat).length : Int) = f.sf + keepN kl ((f.b.length : Int) - f.sf) := by rw [List.length_take]; omega
      refine ⟨fun g hg => ?_, ?_⟩
      · rcases List.mem_cons.1 hg with rfl | hg
        · exact ⟨by show 0 ≤ f.sf + _; omega, by show f.sf + _ ≤ ((f.b.take (f.sf + keepN kl ((f.b.length : Int) - f.sf)).toNat).length : Int); omega⟩
        · exact i1 g hg
      · show ((totF (_ :: (crashF r (kl.drop 1)).1) : Nat) : Int) = (totF (f :: r) : Nat) - (_ + (crashF r (kl.drop 1)).2)
        rw [ht, ht]
        show (((f.b.take (f.sf + keepN kl ((f.b.length : Int) - f.sf)).toNat).length + totF (crashF r (kl.drop 1)).1 : Nat) : Int) = _
        omega
theorem wf_crash (hw : wfD d) : wfD (crashD keep d) := by
  obtain ⟨h1, h2⟩ := crash_in d.fs keep hw.sf
  have h3 := crash_used d.fs keep hw.sf
  have eu := hw.used
  have em := hw.most
  refine ⟨?_, ⟨by show d.used - _ ≤ d.most; omega, em.2⟩, f0, h1, fun f hf => ?_, ris_names hw.ris (crash_names d.fs keep)⟩
  · show d.used - _ = ((totF (crashF d.fs keep).1 : Nat) : Int)
    rw [h2, eu]
    rfl
  · have : f.nm ∈ (crashF d.fs keep).1.map PF.nm := List.mem_map_of_mem hf
    rw [crash_names] at this
    obtain ⟨g, hg, e⟩ := List.mem_map.1 this
    rw [← e]
    exact hw.nm g hg
end
end
section
open Go.Maps
structure JK (nm : ByteArray) (mst : Int) (d : PD) (all : List Int) (safe : Int) : Prop where
  fs : d.fs = [⟨nm, all, safe⟩]
  most : d.most = mst
  nms : nm.size ≤ 40
  mb : mst ≤ 1048576
  used : d.used = all.length
  sf : 0 ≤ safe ∧ safe ≤ all.length ∧ all.length ≤ mst
  fuse : 0 ≤ d.fuse ∧ d.fuse ≤ 9223372036854775807
structure JR (d : PD) (room : Int) (n : Int) : Prop where
  wf : wfD d
  up : d.down = false
  fuse : d.fuse = 0
  most : d.most = room
  len : (d.fs.length : Int) ≤ n
def doesD (kd : Int) (A Z : ByteArray) (n : Int) (y : List Int) (d : PD) : PD × Int :=
  if kd = 1 then createD A d else if kd = 2 then appendD A y d else if kd = 3 then syncD A d else if kd = 4 then renameD A Z d else if kd = 5 then cutD A n d else removeD A d
section
variable {d : PD} {A Z nm : ByteArray} {kd room n m : Int} {y keep : List Int} {k : PD → PD} {f : PF}
structure KeptD (d d2 : PD) : Prop where
  most : d2.most = d.most
  on : d.fuse = 0 → d.down = false → d2.fuse = 0 ∧ d2.down = false
  len : d2.fs.length ≤ d.fs.length + 1
theorem KeptD.refl (d : PD) : KeptD d d := ⟨rfl, fun h1 h2 => ⟨h1, h2⟩, Nat.le_succ _⟩
theorem kept_step (h0 : 0 ≤ d.fuse) (hk : ∀ d1 : PD, d1.fs = d.fs → (k d1).most = d1.most ∧ (k d1).fuse = d1.fuse ∧ (k d1).down = d1.down ∧ (k d1).fs.length ≤ d1.fs.length + 1) : KeptD d (stepD d k).1 := by
  by_cases h1 : d.fuse = 1
  · rw [step_off h1]
    exact ⟨rfl, fun h2 => by omega, Nat.le_succ _⟩
  · rw [step_on h1 h0]
    obtain ⟨a, b, c, e⟩ := hk { d with fuse := decF d.fuse } rfl
    refine ⟨a, fun h2 h3 => ⟨?_, c.trans h3⟩, e⟩
    show (k { d with fuse := decF d.fuse }).fuse = 0
    rw [b]
    show decF d.fuse = 0
    rw [h2]; rfl
theorem upd_len (nm : ByteArray) (h : PF → PF) (fs : List PF) : (updF nm h fs).length = fs.length := by unfold updF; rw [List.length_map]
theorem del_len (nm : ByteArray) (fs : List PF) : (delF nm fs).length ≤ fs.length := List.length_filter_le _ _
theorem ins_len (f : PF) (fs : List PF) : (insF f fs).length = fs.length + 1 := (ins_perm f fs).length_eq
theorem kept_with {q : PF → PD × Int} (h : ∀ f, d.down = false → getF nm d.fs = some f → KeptD d (q f).1) : KeptD d (withF nm d q).1 := by
  cases hd : d.down
  · cases hg : getF nm d.fs with
    | none => rw [with_none hd hg]; exact KeptD.refl d
    | some f => rw [with_some hd hg]; exact h f hd hg
  · rw [with_down hd]; exact KeptD.refl d
theorem kept_create (h0 : 0 ≤ d.fuse) : KeptD d (createD nm d).1 := by
  unfold createD
  split
  · exact KeptD.refl d
  · split
    · exact KeptD.refl d
    · split
      · exact KeptD.refl d
      · refine kept_step h0 fun d1 _ => ⟨rfl, rfl, rfl, ?_⟩
        show (insF _ (delF nm d1.fs)).length ≤ _
        rw [ins_len]
        have := del_len nm d1.fs
        omega
theorem kept_append (h0 : 0 ≤ d.fuse) : KeptD d (appendD nm y d).1 := kept_with fun f hd hg => by
  split
  · exact KeptD.refl d
  · exact kept_step h0 fun d1 _ => ⟨rfl, rfl, rfl, by show (updF nm _ d1.fs).length ≤ _; rw [upd_len]; omega⟩
theorem kept_sync (h0 : 0 ≤ d.fuse) : KeptD d (syncD nm d).1 := kept_with fun f hd hg => kept_step h0 fun d1 _ => ⟨rfl, rfl, rfl, by show (updF nm _ d1.fs).length ≤ _; rw [upd_len]; omega⟩
theorem kept_cut (h0 : 0 ≤ d.fuse) : KeptD d (cutD nm n d).1 := kept_with fun f hd hg => by
  split
  · exact KeptD.refl d
  · exact kept_step h0 fun d1 _ => ⟨rfl, rfl, rfl, by show (updF nm _ d1.fs).length ≤ _; rw [upd_len]; omega⟩
theorem does1 (h : kd = 1) : doesD kd A Z n y d = createD A d := if_pos h
theorem does2 (h1 : ¬ kd = 1) (h : kd = 2) : doesD kd A Z n y d = appendD A y d := by unfold doesD; rw [if_neg h1, if_pos h]
theorem does4 (h1 : ¬ kd = 1) (h2 : ¬ kd = 2) (h3 : ¬ kd = 3) (h : kd = 4) : doesD kd A Z n y d = renameD A Z d := by unfold doesD; rw [if_neg h1, if_neg h2, if_neg h3, if_pos h]
theorem does5 (h1 : ¬ kd = 1) (h2 : ¬ kd = 2) (h3 : ¬ kd = 3) (h4 : ¬ kd = 4) (h : kd = 5) : doesD kd A Z n y d = cutD A n d := by unfold doesD; rw [if_neg h1, if_neg h2, if_neg h3, if_neg h4, if_pos h]
end
def letter (j : Int) : ByteArray := strOfNums [IntKind.u8.wrap (97 + j)]
structure JS (d : PD) (fail i done : Int) : Prop where
  wf : wfD d
  nms : ∀ f ∈ d.fs, ∃ j : Int, 0 ≤ j ∧ j < i ∧ f.nm = letter j
  emp : ∀ f ∈ d.fs, f.b = []
  len : (d.fs.length : Int) = done
  st : (d.down = false ∧ d.fuse = fail - i ∧ i < fail ∧ done = i) ∨ (d.down = true ∧ done = fail - 1 ∧ fail ≤ i)
end
namespace GRead_
theorem need_calls (ad : Addr) (b : Bool) (w : World) :
    Calls Tryz.prog 77 #[.pointer (some ad), .bool b] w fun e w' => (b = true ∧ e = .returned (.tuple #[]) ∧ Below w.heap.size w w') ∨ (b = false ∧ e = .panicked [{ v := .iface 129 (.agg #[]), recovered := false }] ∧ Below w.heap.size w w') := by
 refine gw_start (N := 8) (vs := [.pointer (some ad), .bool b]) Tryz.func77 rfl rfl (by simp) fun a HF HO => ?_
 replace HO : Own w w [] := HO
 refine gR fun K1 hK1 => ?_
 refine Vm HF ?_
 intro _ H3; clear HF
 refine V H3 (op_not rfl (H3.ev rfl)) fun _ H5 => ?_
 refine gE hK1 ?_
 clear H3
 refine gw_cond H5 rfl (fun hb6 => ?_) (fun hb6 => ?_)
 ·
  have H7 := H5.subst_ (d := 5) (b := true) rfl hb6
  clear H5
  (try simp only [Bool.and_eq_true, Bool.and_eq_false_iff, Bool.not_and, Bool.or_eq_true, Bool.or_eq_false_iff, Bool.not_or, Bool.not_not, Bool.not_eq_true', Bool.not_eq_false', Bool.not_eq_true, Bool.not_eq_false] at hb6)
  refine wp_region_lit ?_
  refine V H7 (op_build (cells := #[]) rfl pt_nil (by kernel_rfl)) fun _ H9 => ?_
  refine V H9 (op_iface (fun _ => by first | rfl | kernel_rfl) rfl (H9.ev rfl)) fun _ H11 => ?_
  clear H7 H9
  refine gw_panic (want_none rfl) (panics_ rfl (H11.ev rfl)) ?_
  refine gw_pan H11 ?_
  exact .inr ⟨by simp_all, rfl, HO.below⟩
 have H12 := H5.subst_ (d := 5) (b := false) rfl hb6
 clear H5
 (try simp only [Bool.and_eq_true, Bool.and_eq_false_iff, Bool.not_and, Bool.or_eq_true, Bool.or_eq_false_iff, Bool.not_or, Bool.not_not, Bool.not_eq_true', Bool.not_eq_false', Bool.not_eq_true, Bool.not_eq_false] at hb6)
 refine wp_skip ?_
 refine gw_end0 H12 rfl ?_
 exact .inl ⟨by simp_all, rfl, HO.below⟩
theorem num_calls (w0 w : World) (R : Chunk) (g : Nat) (A : Option Addr) (c : Nat) (xs : List Int) (hx : ∀ w_, Own w0 w_ [R] → Kd.C (Kd.int .u8) w_ A xs.length xs) (hc : xs.length ≤ c) (hb : ByteL xs) (HO : Own w0 w [R, Bk g [.slice A xs.length c] 131]) :
    Calls Tryz.prog 56 #[.pointer (some ⟨g, 0, none⟩)] w fun e w' => (∃ n k A' c', gnum xs = some (n, k) ∧ e = .returned (.int .i64 n) ∧ (∀ W, Kd.C (Kd.int .u8) W A xs.length xs → Kd.C (Kd.int .u8) W A' (xs.drop k).length (xs.drop k)) ∧ (xs.drop k).length ≤ c' ∧ Own w0 w' [R, Chunk.blk g (.cells #[.slice A' (xs.drop k).length c'] 131 (0, 0))]) ∨ (gnum xs = none ∧ e = .panicked [{ v := .iface 129 (.agg #[]), recovered := false }] ∧ Own w0 w' [R]) := by
 refine gw_startO (N := 57) (vs := [.pointer (some ⟨g, 0, none⟩)]) Tryz.func56 rfl rfl (by simp) fun a HF => ?_
 refine gR fun K1 hK1 => ?_
 refine Vc HF ?_
 intro _ H3; clear HF
 refine gE hK1 ?_
 refine gR fun K4 hK4 => ?_
 refine Vc H3 fun _ H6 => ?_
 refine gE hK4 ?_
 refine gR fun K7 hK7 => ?_
 refine Vc H6 fun _ H9 => ?_
 refine gE hK7 ?_
 clear H3 H6
 refine wp_block ?_
 refine gw_loop (fun m_ a_ w_ => ∃ (j : Int) (A' : Option Addr) (c' : Nat), Fr 57 a_ [(3, .int .u64 (valN xs j.toNat)), (4, J (7 * j)), (0, .pointer (some ⟨g, 0, none⟩))] ∧ Own w0 w_ [R, Bk g [.slice A' ((xs.drop j.toNat).length) c'] 131] ∧ (0 ≤ j ∧ j ≤ 9 ∧ j ≤ xs.length) ∧ (gnum xs = gnumFrom xs (10 - j.toNat) j.toNat) ∧ (∀ W, Kd.C (Kd.int .u8) W A xs.length xs → Kd.C (Kd.int .u8) W A' (xs.drop j.toNat).length (xs.drop j.toNat)) ∧ ((xs.drop j.toNat).length ≤ c') ∧ m_ = (9 - j.toNat)) ((9 - (0 : Int).toNat)) ?_ ?_
 ·
  refine ⟨0, A, c, (H9.pick (t := 3) rfl (H9.pick (t := 4) rfl (H9.pick (t := 0) rfl H9.nil))), HO.sel [0, 1] (by decide), ?_, ?_, ?_, ?_, rfl⟩
  ·
   (first | omega | (simp only [List.length_drop] at *; omega))
  ·
   rfl
  ·
   intro W h; exact h
  exact hc
 rintro m11 _ w13 ⟨j, A', c', H14, O15, hj, hg, hC, hcap, hm16⟩
 refine gw_seq fun K17 hK17 => ?_
 refine wp_block ?_
 refine gR fun K18 hK18 => ?_
 refine Vm H14 fun _ H20 => ?_
 refine Vm H20 fun _ H22 => ?_
 refine Vz H22 fun _ H24 => ?_
 refine Vf H24 (gwfld131_0 _ _) fun _ H26 => ?_
 refine Vl H26 gwagg22 (O15.get 1 rfl) fun _ H28 => ?_
 refine V H28 (op_len Tryz.underlying22 rfl (H28.ev rfl)) fun _ H30 => ?_
 refine V H30 (op_gtr rfl (H30.ev rfl) (ev_c _ _)) fun _ H32 => ?_
 refine Vm H32 fun _ H34 => ?_
 clear H14 H20 H22 H24 H26 H28 H30 H32
 refine gw_evG H34 rfl rfl rfl rfl (on_t _) rfl (by decide) (fun h_ => (op_move rfl (H34.ev rfl))) ?_
 intro _ H36; clear H34
 refine gw_evG H36 rfl rfl rfl rfl (on_t _) rfl (by decide) (fun h_ => (op_lss rfl (ev_gv (H36.ev rfl) h_) (ev_c _ _))) ?_
 intro _ H38; clear H36
 refine V H38 (op_pick_and rfl (H38.ev rfl) (fun hp_ => (ev_gv (H38.ev rfl) hp_)) (ev_c _ _)) fun _ H40 => ?_
 clear H38
 refine gw_callP H40 (want_none rfl) rfl (by decide) (op_callL Tryz.func77 (by kernel_rfl) rfl rfl (ar_cons (H40.ev rfl) (ar_cons (H40.ev rfl) ar_nil))) (GRead_.need_calls ⟨g, 0, none⟩ ((decide (0 < (((xs.drop j.toNat).length) : Int))) && (decide ((7 * j) < 63))) _) ?_
 rintro e42 w43 (⟨hn41, rfl, hb44⟩ | ⟨hn41, rfl, hb44⟩)
 rotate_left
 ·
  refine .inr ⟨_, rfl, ?_⟩
  have O48 := O15.after hb44
  (try simp only [bxs_, ne_eq, bne_iff_ne, beq_iff_eq, bne_eq_false_iff_eq, beq_eq_false_iff_ne] at hn41)
  refine gw_thp ?_
  refine gw_blp ?_
  refine gw_thp ?_
  refine gw_thp ?_
  refine gw_blp ?_
  refine gw_pan H40 ?_
  first | exact .inr ⟨gn_out hj.1 hj.2.1 hg (by (first | omega | (simp only [List.length_drop] at *; omega))), rfl, O48.sel [0] (by decide)⟩ | exact .inr ⟨(by rw [gn_in hj.1 hg (by (first | omega | (simp only [List.length_drop] at *; omega))) (by (first | omega | (simp only [List.length_drop] at *; omega))), if_pos (by (first | omega | (simp only [List.length_drop] at *; omega))), if_neg (by (first | omega | (simp only [List.length_drop] at *; omega)))]), rfl, O48.sel [0] (by decide)⟩
 refine .inl ⟨_, rfl, fun _ H46 => ?_⟩
 have O47 := O15.after hb44
 clear H40 O15 hb44
 (try simp only [bxs_, ne_eq, bne_iff_ne, beq_iff_eq, bne_eq_false_iff_eq, beq_eq_false_iff_ne] at hn41)
 refine gE hK18 ?_
 refine gR fun K50 hK50 => ?_
 refine Vm H46 fun _ H52 => ?_
 refine Vz H52 fun _ H54 => ?_
 refine Vf H54 (gwfld131_0 _ _) fun _ H56 => ?_
 refine Vl H56 gwagg22 (O47.get 1 rfl) fun _ H58 => ?_
 clear H46 H52 H54 H56
 obtain ⟨ad59, cs62, hA60, hl63, hK64, hc61⟩ := Kd.C_get (hC _ (hx _ (O47.sel [0] (by decide)))) (0 : Int) 0 (by (first | omega | (simp only [List.length_drop] at *; omega))) (by (first | omega | (simp only [List.length_drop] at *; omega)))
 obtain rfl := id hK64
 clear hl63
 refine V H58 (op_index Tryz.underlying22 gwsiz5 rfl (H58.ev rfl) (ev_c _ _) hA60 (⟨by (first | omega | (simp only [List.length_drop] at *; omega)), by (first | omega | (simp only [List.length_drop] at *; omega))⟩)) fun _ H66 => ?_
 clear H58
 have hby := byte_getD hb j.toNat (by (first | omega | (simp only [List.length_drop] at *; omega)))
 refine V H66 (op_load1 gwagg5 rfl (H66.ev rfl) ((at0 hc61))) fun _ H68 => ?_
 clear H66
 have H69 := H68.conv (v' := .int .u8 (xs.getD j.toNat 0)) (by rw [getD_drop xs j hj.1])
 clear H68
 refine Va H69 fun _ H71 => ?_
 refine gE hK50 ?_
 refine gR fun K72 hK72 => ?_
 refine Vm H71 fun _ H74 => ?_
 refine Vm H74 fun _ H76 => ?_
 refine Vz H76 fun _ H78 => ?_
 refine Vf H78 (gwfld131_0 _ _) fun _ H80 => ?_
 refine Vl H80 gwagg22 (O47.get 1 rfl) fun _ H82 => ?_
 clear H69 H71 H74 H76 H78 H80
 obtain ⟨A83, c84, hr85, hc86, hC87, hA88⟩ := cut_lo (P := Tryz.prog) (d := (Kd.int .u8)) (t := 22) (e := 5) Tryz.underlying22 gwsiz5 A' c' (xs.drop j.toNat) hcap 1 (by (first | omega | (simp only [List.length_drop] at *; omega))) (by (first | omega | (simp only [List.length_drop] at *; omega)))
 refine V H82 (op_cut Tryz.underlying22 hr85 rfl (H82.ev rfl) (some_ev (ev_c _ _)) rfl) fun _ H90 => ?_
 refine Vz H90 fun _ H92 => ?_
 refine Vf H92 (gwfld131_0 _ _) fun _ H94 => ?_
 clear H82 H90 H92
 refine gw_set 1 H94 O47 rfl (want_none rfl) rfl (op_store1 gwsiz22 rfl (H94.ev rfl) (H94.ev rfl) rfl (blk_at (O47.get 1 rfl) rfl) (blkf (O47.get 1 rfl))) ?_
 intro _ w97 H96 O98; clear H94 O47
 refine gE hK72 ?_
 refine gR fun K99 hK99 => ?_
 refine Vm H96 fun _ H101 => ?_
 refine Vm H101 fun _ H103 => ?_
 refine V H103 (op_and rfl (H103.ev rfl) (ev_c _ _)) fun _ H105 => ?_
 clear H96 H101 H103
 have H106 := H105.conv (v' := .int .u8 ((xs.getD j.toNat 0) % 128)) (by rw [and127 hby])
 clear H105
 refine V H106 (op_conv_int Tryz.underlying5 Tryz.underlying133 rfl (H106.ev rfl)) fun _ H108 => ?_
 clear H106
 have H109 := H108.conv (v' := .int .u64 ((xs.getD j.toNat 0) % 128)) (by rw [u64_in _ (by (first | omega | (simp only [List.length_drop] at *; omega))) (by (first | omega | (simp only [List.length_drop] at *; omega)))])
 clear H108
 refine Vm H109 fun _ H111 => ?_
 refine V H111 (op_shl rfl (H111.ev rfl) (H111.ev rfl) (by (first | omega | (simp only [List.length_drop] at *; omega)))) fun _ H113 => ?_
 clear H109 H111
 have H114 := H113.conv (v' := .int .u64 ((xs.getD j.toNat 0) % 128 * 128 ^ j.toNat)) (by rw [shl7 (by (first | omega | (simp only [List.length_drop] at *; omega))) (by (first | omega | (simp only [List.length_drop] at *; omega)))])
 clear H113
 refine V H114 (op_or rfl (H114.ev rfl) (H114.ev rfl)) fun _ H116 => ?_
 clear H114
 have H117 := H116.conv (v' := .int .u64 (valN xs (j.toNat + 1))) (by rw [or7 (by (first | omega | (simp only [List.length_drop] at *; omega)))])
 clear H116
 refine Va H117 fun _ H119 => ?_
 refine gE hK99 ?_
 refine gR fun K120 hK120 => ?_
 refine Vm H119 fun _ H122 => ?_
 refine V H122 (op_lss rfl (H122.ev rfl) (ev_c _ _)) fun _ H124 => ?_
 refine gE hK120 ?_
 clear H117 H119 H122
 refine gw_cond H124 rfl (fun hb125 => ?_) (fun hb125 => ?_)
 ·
  have H126 := H124.subst_ (d := 42) (b := true) rfl hb125
  clear H124
  (try simp only [decide_eq_true_eq] at hb125)
  refine gR fun K127 hK127 => ?_
  refine Vm H126 fun _ H129 => ?_
  refine Vm H129 fun _ H131 => ?_
  refine V H131 (op_leq rfl (H131.ev rfl) (ev_c _ _)) fun _ H133 => ?_
  refine Vm H133 fun _ H135 => ?_
  clear H126 H129 H131 H133
  refine gw_evG H135 rfl rfl rfl rfl (on_t _) rfl (by decide) (fun h_ => (op_move rfl (H135.ev rfl))) ?_
  intro _ H137; clear H135
  refine gw_evG H137 rfl rfl rfl rfl (on_t _) rfl (by decide) (fun h_ => (op_gtr rfl (ev_gv (H137.ev rfl) h_) (ev_c _ _))) ?_
  intro _ H139; clear H137
  refine gw_evG H139 rfl rfl rfl rfl (on_t _) rfl (by decide) (fun h_ => (op_move rfl (ev_gv (H139.ev rfl) h_))) ?_
  intro _ H141; clear H139
  refine gw_evG H141 rfl rfl rfl rfl (on_gf _ _) rfl (by decide) (fun h_ => (op_move rfl (H141.ev rfl))) ?_
  intro _ H143; clear H141
  refine gw_evG H143 rfl rfl rfl rfl (on_gf _ _) rfl (by decide) (fun h_ => (op_eqi rfl (ev_gv (H143.ev rfl) (andi (and1 h_) (and2 h_))) (ev_c _ _))) ?_
  intro _ H145; clear H143
  refine gw_evG H145 rfl rfl rfl rfl (on_t _) rfl (by decide) (fun h_ => (op_pick_or rfl (ev_gv (H145.ev rfl) h_) (ev_c _ _) (fun hp_ => (ev_gv (H145.ev rfl) (andi h_ (not_t hp_)))))) ?_
  intro _ H147; clear H145
  refine V H147 (op_pick_and rfl (H147.ev rfl) (fun hp_ => (ev_gv (H147.ev rfl) hp_)) (ev_c _ _)) fun _ H149 => ?_
  clear H147
  refine gw_callP H149 (want_none rfl) rfl (by decide) (op_callL Tryz.func77 (by kernel_rfl) rfl rfl (ar_cons (H149.ev rfl) (ar_cons (H149.ev rfl) ar_nil))) (GRead_.need_calls ⟨g, 0, none⟩ ((decide ((valN xs (j.toNat + 1)) ≤ 4611686018427387904)) && ((decide (0 < (xs.getD j.toNat 0))) || (decide ((7 * j) = 0)))) _) ?_
  rintro e151 w152 (⟨hn150, rfl, hb153⟩ | ⟨hn150, rfl, hb153⟩)
  rotate_left
  ·
   refine .inr ⟨_, rfl, ?_⟩
   have O157 := O98.after hb153
   (try simp only [bxs_, ne_eq, bne_iff_ne, beq_iff_eq, bne_eq_false_iff_eq, beq_eq_false_iff_ne] at hn150)
   refine gw_thp ?_
   refine gw_blp ?_
   refine gw_thp ?_
   refine gw_thp ?_
   refine gw_blp ?_
   refine gw_pan H149 ?_
   first | exact .inr ⟨gn_out hj.1 hj.2.1 hg (by (first | omega | (simp only [List.length_drop] at *; omega))), rfl, O157.sel [0] (by decide)⟩ | exact .inr ⟨(by rw [gn_in hj.1 hg (by (first | omega | (simp only [List.length_drop] at *; omega))) (by (first | omega | (simp only [List.length_drop] at *; omega))), if_pos (by (first | omega | (simp only [List.length_drop] at *; omega))), if_neg (by (first | omega | (simp only [List.length_drop] at *; omega)))]), rfl, O157.sel [0] (by decide)⟩
  refine .inl ⟨_, rfl, fun _ H155 => ?_⟩
  have O156 := O98.after hb153
  clear H149 O98 hb153
  (try simp only [bxs_, ne_eq, bne_iff_ne, beq_iff_eq, bne_eq_false_iff_eq, beq_eq_false_iff_ne] at hn150)
  refine gE hK127 ?_
  refine gR fun K159 hK159 => ?_
  refine Vm H155 fun _ H161 => ?_
  refine V H161 (op_conv_inb Tryz.underlying133 Tryz.underlying2 rfl (H161.ev rfl) (by have hvb_ := (valN_bound xs (j.toNat + 1)).1; constructor <;> omega)) fun _ H163 => ?_
  refine Va H163 fun _ H165 => ?_
  refine gE hK159 ?_
  refine wp_ret ?_
  clear H155 H161 H163
  refine gw_blr ?_
  refine gw_thr ?_
  refine gw_thr ?_
  refine gw_blr ?_
  refine gw_ret1 H165 rfl rfl ?_
  have eg := gn_in hj.1 hg (by (first | omega | (simp only [List.length_drop] at *; omega))) (by (first | omega | (simp only [List.length_drop] at *; omega)))
  rw [if_pos (by (first | omega | (simp only [List.length_drop] at *; omega))), if_pos (by exact ⟨by (first | omega | (simp only [List.length_drop] at *; omega)), by (first | omega | (simp only [List.length_drop] at *; omega))⟩)] at eg
  refine .inl ⟨_, _, A83, c84, eg, rfl, ?_, ?_, ?_⟩
  ·
   intro W h; rw [show j.toNat + 1 = (j + 1).toNat by (first | omega | (simp only [List.length_drop] at *; omega)), ← drop_one_more xs j (by (first | omega | (simp only [List.length_drop] at *; omega)))]; exact hC87 W (hC W h)
  ·
   rw [show j.toNat + 1 = (j + 1).toNat by (first | omega | (simp only [List.length_drop] at *; omega)), ← drop_one_more xs j (by (first | omega | (simp only [List.length_drop] at *; omega)))]; exact hc86
  rw [show j.toNat + 1 = (j + 1).toNat by (first | omega | (simp only [List.length_drop] at *; omega)), ← drop_one_more xs j (by (first | omega | (simp only [List.length_drop] at *; omega)))]; exact O156
 have H166 := H124.subst_ (d := 42) (b := false) rfl hb125
 clear H124
 (try simp only [decide_eq_false_iff_not, Int.not_lt] at hb125)
 refine wp_skip ?_
 refine gw_blk ?_
 refine gw_nx (hK17 _ _ ?_)
 refine wp_region_lit ?_
 refine Vm H166 fun _ H168 => ?_
 refine V H168 (op_add rfl (H168.ev rfl) (ev_c _ _) (by (first | omega | (simp only [List.length_drop] at *; omega)))) fun _ H170 => ?_
 clear H166 H168
 have H171 := H170.conv (v' := J (7 * (j + 1))) (by congr 1; omega)
 clear H170
 refine Va H171 fun _ H173 => ?_
 clear H171
 refine wpList_nil ?_
 rw [drop_one_more xs j (by (first | omega | (simp only [List.length_drop] at *; omega)))] at O98
 (try rw [drop_one_more xs j (by (first | omega | (simp only [List.length_drop] at *; omega)))] at H173)
 rw [show valN xs (j.toNat + 1) = valN xs (j + 1).toNat from by rw [show (j + 1).toNat = j.toNat + 1 by (first | omega | (simp only [List.length_drop] at *; omega))]] at H173
 refine gw_nx ⟨_, ?_, j + 1, A83, c84, (H173.pick (t := 3) rfl (H173.pick (t := 4) rfl (H173.pick (t := 0) rfl H173.nil))), O98.sel [0, 1] (by decide), ?_, ?_, ?_, ?_, rfl⟩
 ·
  rw [hm16]; (first | omega | (simp only [List.length_drop] at *; omega))
 ·
  (first | omega | (simp only [List.length_drop] at *; omega))
 ·
  rw [gn_in hj.1 hg (by (first | omega | (simp only [List.length_drop] at *; omega))) (by (first | omega | (simp only [List.length_drop] at *; omega))), if_neg (by (first | omega | (simp only [List.length_drop] at *; omega)))]
 ·
  intro W h; rw [← drop_one_more xs j (by (first | omega | (simp only [List.length_drop] at *; omega)))]; exact hC87 W (hC W h)
 rw [← drop_one_more xs j (by (first | omega | (simp only [List.length_drop] at *; omega)))]; exact hc86
theorem left_calls (g : Nat) (A : Option Addr) (n c : Nat) (w : World) (hB : w.heap[g]? = some (.cells #[.slice A n c] 131 (0, 0))) :
    Calls Tryz.prog 57 #[.pointer (some ⟨g, 0, none⟩)] w fun e w' => e = .returned (.int .i64 n) ∧ Below w.heap.size w w' := by
 refine gw_start (N := 8) (vs := [.pointer (some ⟨g, 0, none⟩)]) Tryz.func57 rfl rfl (by simp) fun a HF HO => ?_
 replace HO : Own w w [] := HO
 refine gR fun K1 hK1 => ?_
 refine Vc HF ?_
 intro _ H3; clear HF
 refine gE hK1 ?_
 refine gR fun K4 hK4 => ?_
 refine Vm H3 fun _ H6 => ?_
 refine Vz H6 fun _ H8 => ?_
 refine Vf H8 (gwfld131_0 _ _) fun _ H10 => ?_
 refine Vl H10 gwagg22 (argblk HO hB) fun _ H12 => ?_
 refine V H12 (op_len Tryz.underlying22 rfl (H12.ev rfl)) fun _ H14 => ?_
 refine Va H14 fun _ H16 => ?_
 refine gE hK4 ?_
 refine wp_ret ?_
 clear H3 H6 H8 H10 H12 H14
 refine gw_ret1 H16 rfl rfl ?_
 exact ⟨rfl, HO.below⟩
theorem readd_ok (w0 w : World) (R : Chunk) (gc : Nat) (n : Int) (HO : Own w0 w [R, Bk gc [.int .i64 n] 26]) :
    CallsD Tryz.prog 76 #[.pointer (some ⟨gc, 0, none⟩)] .returning w fun e u' w' => e = .returned (.tuple #[]) ∧ u' = .returning ∧ Own w0 w' [R, Chunk.blk gc (.cells #[.int .i64 n] 26 (0, 0))] := by
 refine gs_start (N := 10) (vs := [.pointer (some ⟨gc, 0, none⟩)]) Tryz.func76 rfl rfl (by simp) fun c0 cs hu a HF => ?_
 refine gs_recover (got := .nilIface) (u' := .returning) HF rfl rfl rfl (by decide) hu (by rfl) fun a HF => ?_
 refine wp_block ?_
 refine gR fun K1 hK1 => ?_
 refine V HF (op_bin_run (r := .bool true) rfl (HF.ev rfl) (ev_c _ _) (by kernel_rfl)) ?_
 intro _ H3; clear HF
 refine gE hK1 ?_
 refine gw_cond H3 rfl (fun hb4 => ?_) (fun hb4 => ?_)
 rotate_left
 ·
  cases hb4
 refine wp_region_lit ?_
 refine Va H3 fun _ H6 => ?_
 clear H3
 refine wpList_nil ?_
 refine gw_blk ?_
 refine gs_end0 H6 rfl ?_
 exact ⟨rfl, rfl, HO.sel [0, 1] (by decide)⟩
theorem readd_bad (w0 w : World) (R : Chunk) (gc : Nat) (n : Int) (HO : Own w0 w [R, Bk gc [.int .i64 n] 26]) :
    CallsD Tryz.prog 76 #[.pointer (some ⟨gc, 0, none⟩)] (.panicking [{ v := (.iface 129 (.agg #[])), recovered := false }]) w fun e u' w' => e = .returned (.tuple #[]) ∧ u' = .panicking [{ v := (.iface 129 (.agg #[])), recovered := true }] ∧ Own w0 w' [R, Chunk.blk gc (.cells #[.int .i64 80] 26 (0, 0))] := by
 refine gs_start (N := 10) (vs := [.pointer (some ⟨gc, 0, none⟩)]) Tryz.func76 rfl rfl (by simp) fun c0 cs hu a HF => ?_
 refine gs_recover (got := .iface 129 (.agg #[])) (u' := (.panicking [{ v := (.iface 129 (.agg #[])), recovered := true }])) HF rfl rfl rfl (by decide) hu (by rfl) fun a HF => ?_
 refine wp_block ?_
 refine gR fun K1 hK1 => ?_
 refine V HF (op_bin_run (r := .bool false) rfl (HF.ev rfl) (ev_c _ _) (by kernel_rfl)) ?_
 intro _ H3; clear HF
 refine gE hK1 ?_
 refine gw_cond H3 rfl (fun hb4 => ?_) (fun hb4 => ?_)
 ·
  cases hb4
 refine gR fun K5 hK5 => ?_
 refine V H3 (op_tassert (r := .tuple #[.agg #[], .bool true]) (by kernel_rfl) rfl (H3.ev rfl)) fun _ H7 => ?_
 refine Vx H7 fun _ H9 => ?_
 refine Vx H9 fun _ H11 => ?_
 refine gE hK5 ?_
 clear H3 H7 H9
 refine gw_cond H11 rfl (fun hb12 => ?_) (fun hb12 => ?_)
 rotate_left
 ·
  cases hb12
 refine gR fun K13 hK13 => ?_
 refine gw_new H11 HO (want_none rfl) rfl (by decide) (op_alloc gwzer129 rfl) ?_
 intro g14 _ w16 H17 O18; clear H11 HO
 have O19 : Own w0 w16 [Bk g14 [] 129, R, Bk gc [J n] 26] := O18
 clear O18
 refine gw_setn 0 H17 O19 rfl (want_none rfl) rfl (op_storen gwsiz129 rfl (H17.ev rfl) (H17.ev rfl) (O19.get 0 rfl) rfl (by simp) (by simp [Value.oneCell'])) ?_
 intro _ w22 H21 O23; clear H17 O19
 refine gE hK13 ?_
 refine wp_region_lit ?_
 refine gw_set 2 H21 O23 rfl (want_none rfl) rfl (op_store1 gwsiz26 rfl (H21.ev rfl) (ev_c _ _) rfl (blk_at (O23.get 2 rfl) rfl) (blkf (O23.get 2 rfl))) ?_
 intro _ w26 H25 O27; clear H21 O23
 refine wpList_nil ?_
 refine gw_blk ?_
 refine gs_end0 H25 rfl ?_
 exact ⟨rfl, rfl, O27.sel [1, 2] (by decide)⟩
theorem readd_mine (w0 w : World) (R : Chunk) (gc : Nat) (n : Int) (HO : Own w0 w [R, Bk gc [.int .i64 n] 26]) :
    CallsD Tryz.prog 76 #[.pointer (some ⟨gc, 0, none⟩)] (.panicking [{ v := (.iface 9 (.string (⟨#[109, 105, 110, 101]⟩ : ByteArray))), recovered := false }]) w fun e u' w' => e = .panicked [{ v := (.iface 9 (.string (⟨#[109, 105, 110, 101]⟩ : ByteArray))), recovered := false }] ∧ u' = .panicking [{ v := (.iface 9 (.string (⟨#[109, 105, 110, 101]⟩ : ByteArray))), recovered := true }] ∧ Own w0 w' [R, Chunk.blk gc (.cells #[.int .i64 n] 26 (0, 0))] := by
 refine gs_start (N := 10) (vs := [.pointer (some ⟨gc, 0, none⟩)]) Tryz.func76 rfl rfl (by simp) fun c0 cs hu a HF => ?_
 refine gs_recover (got := .iface 9 (.string (⟨#[109, 105, 110, 101]⟩ : ByteArray))) (u' := (.panicking [{ v := (.iface 9 (.string (⟨#[109, 105, 110, 101]⟩ : ByteArray))), recovered := true }])) HF rfl rfl rfl (by decide) hu (by rfl) fun a HF => ?_
 refine wp_block ?_
 refine gR fun K1 hK1 => ?_
 refine V HF (op_bin_run (r := .bool false) rfl (HF.ev rfl) (ev_c _ _) (by kernel_rfl)) ?_
 intro _ H3; clear HF
 refine gE hK1 ?_
 refine gw_cond H3 rfl (fun hb4 => ?_) (fun hb4 => ?_)
 ·
  cases hb4
 refine gR fun K5 hK5 => ?_
 refine V H3 (op_tassert (r := .tuple #[.agg #[], .bool false]) (by kernel_rfl) rfl (H3.ev rfl)) fun _ H7 => ?_
 refine Vx H7 fun _ H9 => ?_
 refine Vx H9 fun _ H11 => ?_
 refine gE hK5 ?_
 clear H3 H7 H9
 refine gw_cond H11 rfl (fun hb12 => ?_) (fun hb12 => ?_)
 ·
  cases hb12
 refine gR fun K13 hK13 => ?_
 refine Va H11 fun _ H15 => ?_
 refine gE hK13 ?_
 clear H11
 refine wp_region_lit ?_
 refine Vm H15 fun _ H17 => ?_
 clear H15
 refine gw_panic (want_none rfl) (panics_ rfl (H17.ev rfl)) ?_
 refine gw_blp ?_
 refine gs_pan H17 ?_
 exact ⟨rfl, rfl, HO.sel [0, 1] (by decide)⟩
theorem read_calls (w0 w : World) (R X : Chunk) (A : Option Addr) (c : Nat) (xs : List Int) (fid : Nat) (fn0 : Func) (cap : List Value) (Gd : Nat → Chunk → Prop) (Bd Md : Chunk → Prop) (h1 : Tryz.prog.funcs[fid]? = some fn0) (h2 : (fn0.name == "runtime.NumGoroutine") = false) (h3 : fn0.body.isSome = true) (hf : ∀ (R' : Chunk) (g : Nat) (w1 : World), (∀ w_, Own w0 w_ [R'] → Own w0 w_ [R]) → Own w0 w1 [R', Chunk.blk g (.cells #[.slice A xs.length c] 131 (0, 0)), X] → Calls Tryz.prog fid (([.pointer (some ⟨g, 0, none⟩)] : List Value) ++ cap).toArray w1 fun e w2 => (∃ A' n' c' Y, e = .returned (.tuple #[]) ∧ Gd n' Y ∧ Own w0 w2 [R', Chunk.blk g (.cells #[.slice A' n' c'] 131 (0, 0)), Y]) ∨ (∃ Y, e = .panicked [{ v := .iface 129 (.agg #[]), recovered := false }] ∧ Bd Y ∧ Own w0 w2 [R', Y]) ∨ (∃ Y, e = .panicked [{ v := .iface 9 (.string (⟨#[109, 105, 110, 101]⟩ : ByteArray)), recovered := false }] ∧ Md Y ∧ Own w0 w2 [R', Y])) (HO : Own w0 w [R, X]) :
    Calls Tryz.prog 54 #[.slice A xs.length c, .func (.func fid) #[] cap.toArray] w fun e w' => (∃ n' Y, e = .returned (.int .i64 (if n' = 0 then 0 else 80)) ∧ Gd n' Y ∧ Own w0 w' [R, Y]) ∨ (∃ Y, e = .returned (.int .i64 80) ∧ Bd Y ∧ Own w0 w' [R, Y]) ∨ (∃ Y, e = .panicked [{ v := (.iface 9 (.string (⟨#[109, 105, 110, 101]⟩ : ByteArray))), recovered := false }, { v := (.iface 9 (.string (⟨#[109, 105, 110, 101]⟩ : ByteArray))), recovered := true }] ∧ Md Y ∧ Own w0 w' [R, Y]) := by
 refine gw_startD (N := 21) (vs := [.slice A xs.length c, .func (.func fid) #[] cap.toArray]) Tryz.func54 rfl rfl (by simp) fun a HF => ?_
 refine gR fun K1 hK1 => ?_
 refine gw_new HF HO (want_none rfl) rfl (by decide) (op_alloc gwzer26 rfl) ?_
 intro g2 _ w4 H5 O6; clear HF HO
 have O7 : Own w0 w4 [Bk g2 [J 0] 26, R, X] := O6
 clear O6
 refine gE hK1 ?_
 refine gR fun K8 hK8 => ?_
 refine V H5 (op_func rfl (ar_cons (H5.ev rfl) ar_nil)) fun _ H10 => ?_
 clear H5
 refine gw_defer H10 (want_none rfl) rfl rfl (H10.ev rfl) ?_
 intro _ H12; clear H10
 refine gE hK8 ?_
 refine gR fun K13 hK13 => ?_
 refine Vm H12 fun _ H15 => ?_
 refine V H15 (op_build (cells := #[.slice A xs.length c]) rfl (pt_cons (H15.ev rfl) pt_nil) (by kernel_rfl)) fun _ H17 => ?_
 clear H12 H15
 refine gw_new H17 O7 (want_none rfl) rfl (by decide) (op_box rfl (H17.ev rfl)) ?_
 intro g18 _ w20 H21 O22; clear H17 O7
 have O23 : Own w0 w20 [Bk g18 [.slice A xs.length c] 131, Bk g2 [J 0] 26, R, X] := O22
 clear O22
 refine Va H21 fun _ H25 => ?_
 refine gE hK13 ?_
 refine gR fun K26 hK26 => ?_
 refine Vm H25 fun _ H28 => ?_
 refine Vm H28 fun _ H30 => ?_
 clear H21 H25 H28
 have O42 : Own w0 _ [(Chunk.all [Bk g2 [J 0] 26, R]), Bk g18 [.slice A xs.length c] 131, X] := Own.bundle (O23.sel [1, 2, 0, 3] (by decide))
 refine gw_callP H30 (want_none rfl) rfl (by decide) (op_callV h1 h2 h3 rfl (H30.ev rfl) (ar_cons (H30.ev rfl) ar_nil)) (hf (Chunk.all [Bk g2 [J 0] 26, R]) g18 _ (fun w_ h_ => (Own.unbundle (A := [Bk g2 [J 0] 26, R]) (L := []) h_).sel [1] (by decide)) O42) ?_
 rintro e36 w37 (⟨A33, n34, c35, Y31, rfl, hG32, hb38⟩ | ⟨Y31, rfl, hG32, hb38⟩ | ⟨Y31, rfl, hG32, hb38⟩)
 rotate_left
 ·
  refine .inr ⟨_, rfl, ?_⟩
  have O43 : Own w0 w37 [Bk g2 [J 0] 26, R, Y31] := Own.unbundle (A := [Bk g2 [J 0] 26, R]) (L := [Y31]) hb38
  refine gw_thp ?_
  refine gw_dpan H30 ?_
  refine leaves_cons (f := 76) (args := #[.pointer (some ⟨g2, 0, none⟩)]) (by simp) (invoke_fn Tryz.func76 (by kernel_rfl) rfl _) ?_
  refine (readd_bad w0 _ (Chunk.all [R, Y31]) g2 0 (Own.bundle (A := [R, Y31]) (L := [Bk g2 [J 0] 26]) (O43.sel [1, 2, 0] (by decide)))).mono ?_
  rintro e_ u_ w_ ⟨rfl, rfl, hO_⟩
  replace hO_ := (Own.unbundle (A := [R, Y31]) (L := [Chunk.blk g2 (.cells #[J 80] 26 (0, 0))]) hO_)
  refine gl_ret1 rfl (rv_cell1 H30 rfl gwagg26 (blk_at (hO_.get 2 rfl) rfl)) ?_
  exact .inr (.inl ⟨_, rfl, hG32, hO_.sel [0, 1] (by decide)⟩)
 ·
  refine .inr ⟨_, rfl, ?_⟩
  have O44 : Own w0 w37 [Bk g2 [J 0] 26, R, Y31] := Own.unbundle (A := [Bk g2 [J 0] 26, R]) (L := [Y31]) hb38
  refine gw_thp ?_
  refine gw_dpan H30 ?_
  refine leaves_cons (f := 76) (args := #[.pointer (some ⟨g2, 0, none⟩)]) (by simp) (invoke_fn Tryz.func76 (by kernel_rfl) rfl _) ?_
  refine (readd_mine w0 _ (Chunk.all [R, Y31]) g2 0 (Own.bundle (A := [R, Y31]) (L := [Bk g2 [J 0] 26]) (O44.sel [1, 2, 0] (by decide)))).mono ?_
  rintro e_ u_ w_ ⟨rfl, rfl, hO_⟩
  replace hO_ := (Own.unbundle (A := [R, Y31]) (L := [Chunk.blk g2 (.cells #[J 0] 26 (0, 0))]) hO_)
  exact .inr (.inr ⟨_, rfl, hG32, hO_.sel [0, 1] (by decide)⟩)
 refine .inl ⟨_, rfl, fun _ H40 => ?_⟩
 have O41 : Own w0 w37 [Bk g2 [J 0] 26, R, Bk g18 [.slice A33 n34 c35] 131, Y31] := Own.unbundle (hb38.sel [0, 1, 2] (by decide))
 clear O42
 clear H30 O23 hb38
 refine gE hK26 ?_
 refine gR fun K46 hK46 => ?_
 refine Vm H40 fun _ H48 => ?_
 refine Vm H48 fun _ H50 => ?_
 refine Vz H50 fun _ H52 => ?_
 refine Vf H52 (gwfld131_0 _ _) fun _ H54 => ?_
 refine Vl H54 gwagg22 (O41.get 2 rfl) fun _ H56 => ?_
 refine V H56 (op_len Tryz.underlying22 rfl (H56.ev rfl)) fun _ H58 => ?_
 refine V H58 (op_eqi rfl (H58.ev rfl) (ev_c _ _)) fun _ H60 => ?_
 clear H40 H48 H50 H52 H54 H56 H58
 refine gw_callP H60 (want_none rfl) rfl (by decide) (op_callL Tryz.func77 (by kernel_rfl) rfl rfl (ar_cons (H60.ev rfl) (ar_cons (H60.ev rfl) ar_nil))) (GRead_.need_calls ⟨g18, 0, none⟩ (decide ((n34 : Int) = 0)) _) ?_
 rintro e62 w63 (⟨hn61, rfl, hb64⟩ | ⟨hn61, rfl, hb64⟩)
 rotate_left
 ·
  refine .inr ⟨_, rfl, ?_⟩
  have O68 := O41.after hb64
  (try simp only [bxs_, ne_eq, bne_iff_ne, beq_iff_eq, bne_eq_false_iff_eq, beq_eq_false_iff_ne] at hn61)
  refine gw_thp ?_
  refine gw_dpan H60 ?_
  refine leaves_cons (f := 76) (args := #[.pointer (some ⟨g2, 0, none⟩)]) (by simp) (invoke_fn Tryz.func76 (by kernel_rfl) rfl _) ?_
  refine (readd_bad w0 _ (Chunk.all [R, Bk g18 [.slice A33 n34 c35] 131, Y31]) g2 0 (Own.bundle (A := [R, Bk g18 [.slice A33 n34 c35] 131, Y31]) (L := [Bk g2 [J 0] 26]) (O68.sel [1, 2, 3, 0] (by decide)))).mono ?_
  rintro e_ u_ w_ ⟨rfl, rfl, hO_⟩
  replace hO_ := (Own.unbundle (A := [R, Bk g18 [.slice A33 n34 c35] 131, Y31]) (L := [Chunk.blk g2 (.cells #[J 80] 26 (0, 0))]) hO_)
  refine gl_ret1 rfl (rv_cell1 H60 rfl gwagg26 (blk_at (hO_.get 3 rfl) rfl)) ?_
  exact .inl ⟨_, _, (by rw [if_neg (by omega)]; rfl), hG32, hO_.sel [0, 2] (by decide)⟩
 refine .inl ⟨_, rfl, fun _ H66 => ?_⟩
 have O67 := O41.after hb64
 clear H60 O41 hb64
 (try simp only [bxs_, ne_eq, bne_iff_ne, beq_iff_eq, bne_eq_false_iff_eq, beq_eq_false_iff_ne] at hn61)
 refine gE hK46 ?_
 refine gR fun K70 hK70 => ?_
 refine gw_set 0 H66 O67 rfl (want_none rfl) rfl (op_store1 gwsiz26 rfl (H66.ev rfl) (ev_c _ _) rfl (blk_at (O67.get 0 rfl) rfl) (blkf (O67.get 0 rfl))) ?_
 intro _ w73 H72 O74; clear H66 O67
 refine gE hK70 ?_
 refine wp_ret ?_
 refine gw_dret H72 ?_
 refine leaves_cons (f := 76) (args := #[.pointer (some ⟨g2, 0, none⟩)]) (by simp) (invoke_fn Tryz.func76 (by kernel_rfl) rfl _) ?_
 refine (readd_ok w0 _ (Chunk.all [R, Bk g18 [.slice A33 n34 c35] 131, Y31]) g2 0 (Own.bundle (A := [R, Bk g18 [.slice A33 n34 c35] 131, Y31]) (L := [Bk g2 [J 0] 26]) (O74.sel [1, 2, 3, 0] (by decide)))).mono ?_
 rintro e_ u_ w_ ⟨rfl, rfl, hO_⟩
 replace hO_ := (Own.unbundle (A := [R, Bk g18 [.slice A33 n34 c35] 131, Y31]) (L := [Chunk.blk g2 (.cells #[J 0] 26 (0, 0))]) hO_)
 refine gl_ret1 rfl (rv_cell1 H72 rfl gwagg26 (blk_at (hO_.get 3 rfl) rfl)) ?_
 exact .inl ⟨_, _, (by rw [if_pos (by omega)]; rfl), hG32, hO_.sel [0, 2] (by decide)⟩
end GRead_
section
section
variable {w0 w : World} {c d x : Chunk} {L qs : List Chunk}
theorem Own.out2 (h : Own w0 w [c, d, Chunk.all qs]) : Own w0 w (c :: d :: qs) := by
  have h1 : Own w0 w [Chunk.all qs, c, d] := h.sel [2, 0, 1] (by decide)
  have h2 := h1.unbundle
  exact ⟨h2.below, fun e he => h2.holds e (by simp only [List.mem_cons, List.mem_append, List.mem_nil_iff, or_false] at he ⊢; rcases he with he | he | he <;> simp [he]), fun e he => h2.inside e (by simp only [List.mem_cons, List.mem_append, List.mem_nil_iff, or_false] at he ⊢; rcases he with he | he | he <;> simp [he]),
    List.Perm.pairwise (List.perm_append_comm (l₁ := qs) (l₂ := [c, d])) h2.apart (fun h => ap_symm _ _ h)⟩
theorem Own.in2 (h : Own w0 w (c :: d :: qs)) : Own w0 w [c, d, Chunk.all qs] := by
  have h1 : Own w0 w (qs ++ [c, d]) := ⟨h.below, fun e he => h.holds e (by simp only [List.mem_cons, List.mem_append, List.mem_nil_iff, or_false] at he ⊢; rcases he with he | he | he <;> simp [he]), fun e he => h.inside e (by simp only [List.mem_cons, List.mem_append, List.mem_nil_iff, or_false] at he ⊢; rcases he with he | he | he <;> simp [he]),
    List.Perm.pairwise (List.perm_append_comm (l₁ := [c, d]) (l₂ := qs)) h.apart (fun h => ap_symm _ _ h)⟩
  exact (Own.bundle h1).sel [1, 2, 0] (by decide)
theorem Own.out1 (h : Own w0 w [c, Chunk.all qs]) : Own w0 w (c :: qs) := by
  have h1 : Own w0 w [Chunk.all qs, c] := h.sel [1, 0] (by decide)
  have h2 := h1.unbundle
  exact ⟨h2.below, fun e he => h2.holds e (by simp only [List.mem_cons, List.mem_append, List.mem_nil_iff, or_false] at he ⊢; rcases he with he | he <;> simp [he]), fun e he => h2.inside e (by simp only [List.mem_cons, List.mem_append, List.mem_nil_iff, or_false] at he ⊢; rcases he with he | he <;> simp [he]),
    List.Perm.pairwise (List.perm_append_comm (l₁ := qs) (l₂ := [c])) h2.apart (fun h => ap_symm _ _ h)⟩
theorem Own.in1 (h : Own w0 w (c :: qs)) : Own w0 w [c, Chunk.all qs] := by
  have h1 : Own w0 w (qs ++ [c]) := ⟨h.below, fun e he => h.holds e (by simp only [List.mem_cons, List.mem_append, List.mem_nil_iff, or_false] at he ⊢; rcases he with he | he <;> simp [he]), fun e he => h.inside e (by simp only [List.mem_cons, List.mem_append, List.mem_nil_iff, or_false] at he ⊢; rcases he with he | he <;> simp [he]),
    List.Perm.pairwise (List.perm_append_comm (l₁ := [c]) (l₂ := qs)) h.apart (fun h => ap_symm _ _ h)⟩
  exact (Own.bundle h1).sel [1, 0] (by decide)
end
abbrev rblk (g : Nat) (A : Option Addr) (n c : Nat) : Chunk := Chunk.blk g (.cells #[.slice A n c] 131 (0, 0))
abbrev badE : List PanicEntry := [{ v := .iface 129 (.agg #[]), recovered := false }]
abbrev mineV : Value := .iface 9 (.string (⟨#[109, 105, 110, 101]⟩ : ByteArray))
theorem read_list (w0 w : World) (R : Chunk) (ps : List Chunk) (A : Option Addr) (c : Nat) (xs : List Int) (fid : Nat) (fn0 : Func) (cap : List Value) (Gd : Nat → List Chunk → Prop) (Bd Md : List Chunk → Prop) (h1 : Tryz.prog.funcs[fid]? = some fn0) (h2 : (fn0.name == "runtime.NumGoroutine") = false) (h3 : fn0.body.isSome = true)
    (hf : ∀ (R' : Chunk) (g : Nat) (w1 : World), (∀ w_, Own w0 w_ [R'] → Own w0 w_ [R]) → Own w0 w1 (R' :: rblk g A xs.length c :: ps) → Calls Tryz.prog fid (([.pointer (some ⟨g, 0, none⟩)] : List Value) ++ cap).toArray w1 fun e w2 => (∃ A' n' c' qs, e = .returned (.tuple #[]) ∧ Gd n' qs ∧ Own w0 w2 (R' :: rblk g A' n' c' :: qs)) ∨ (∃ qs, e = .panicked badE ∧ Bd qs ∧ Own w0 w2 (R' :: qs)) ∨ (∃ qs, e = .panicked [{ v := mineV, recovered := false }] ∧ Md qs ∧ Own w0 w2 (R' :: qs)))
    (HO : Own w0 w (R :: ps)) : Calls Tryz.prog 54 #[.slice A xs.length c, .func (.func fid) #[] cap.toArray] w fun e w' => (∃ n' qs, e = .returned (.int .i64 (if n' = 0 then 0 else 80)) ∧ Gd n' qs ∧ Own w0 w' (R :: qs)) ∨ (∃ qs, e = .returned (.int .i64 80) ∧ Bd qs ∧ Own w0 w' (R :: qs)) ∨ (∃ qs, e = .panicked [{ v := mineV, recovered := false }, { v := mineV, recovered := true }] ∧ Md qs ∧ Own w0 w' (R :: qs)) := by
  refine (GRead_.read_calls w0 w R (Chunk.all ps) A c xs fid fn0 cap (fun n Y => ∃ qs, Y = Chunk.all qs ∧ Gd n qs) (fun Y => ∃ qs, Y = Chunk.all qs ∧ Bd qs) (fun Y => ∃ qs, Y = Chunk.all qs ∧ Md qs) h1 h2 h3 ?_ HO.in1).mono ?_
  · intro R' g w1 hR hO
    refine (hf R' g w1 hR hO.out2).mono ?_
    rintro e w2 (⟨A', n', c', qs, rfl, hG, h⟩ | ⟨qs, rfl, hB, h⟩ | ⟨qs, rfl, hM, h⟩)
    · exact .inl ⟨A', n', c', _, rfl, ⟨qs, rfl, hG⟩, h.in2⟩
    · exact .inr (.inl ⟨_, rfl, ⟨qs, rfl, hB⟩, h.in1⟩)
    · exact .inr (.inr ⟨_, rfl, ⟨qs, rfl, hM⟩, h.in1⟩)
  · rintro e w2 (⟨n', Y, rfl, ⟨qs, rfl, hG⟩, h⟩ | ⟨Y, rfl, ⟨qs, rfl, hB⟩, h⟩ | ⟨Y, rfl, ⟨qs, rfl, hM⟩, h⟩)
    · exact .inl ⟨n', qs, rfl, hG, h.out1⟩
    · exact .inr (.inl ⟨qs, rfl, hB, h.out1⟩)
    · exact .inr (.inr ⟨qs, rfl, hM, h.out1⟩)
end
end Go.Proofs.YtkdahjnmldeklaaGreat.PA
section
namespace Go.Proofs
open Go.RowKit Go.Maps Go.Sort Go.Shelf
shelf_lay_g SlLaysZI.n7 Ggz 7 at Tryz 51 as Tryz.keysI
shelf_lay_g SlLaysZI.n6 Ggz 6 at Tryz 50 as Tryz.sortedI
shelf_lay_g SlLaysM.n5 Slgm 5 at Tryz 74 as Tryz.sortI
theorem Tryz.sortsI (m : Nat) : AnyZI.SortsIn Tryz.prog Tryz.sortedI_ren Fence.wide m :=
  ⟨fun blk off cap ss W hH hblk hsz => callsIn_wide.2 (AnyM.slices_Sort_int Tryz.sortI blk off cap ss W hH hblk hsz),
   fun p cap W => callsIn_wide.2 (AnyM.slices_Sort_int_none Tryz.sortI p cap W)⟩
theorem Tryz.keysI_at (mb : Option Nat) (W : World) : CallsIn Fence.wide 5 Tryz.prog 51 #[.map mb] W fun e w' => e = .returned (.func (.func 75) #[] #[.pointer (some ⟨W.heap.size, 0, none⟩)]) ∧ w' = W.alloc (.cells #[.map mb] 77) :=
  AnyZI.keys_in Tryz.keysI Fence.wide 5 trivial rfl mb W
set_option maxHeartbeats 1000000 in
theorem Tryz.sortedI_at {H : Type} (b nn : Nat) (D0 : DataW H) (R : Value → Option (DataW H × List MemPlace)) (w : World) (hown : w.ownsMap Tryz.prog 2 R b nn D0) (hmax : Maps.size D0 ≤ maxLen) (hbytes : Maps.size D0 * 8 ≤ 140737488355328) :
    CallsIn Fence.wide 5 Tryz.prog 50 #[.func (.func 75) #[] #[.pointer (some ⟨w.heap.size, 0, none⟩)]] (w.alloc (.cells #[.map (some b)] 77)) fun e w' => ∃ (v : Value) (ss : List Int), e = .returned v ∧ ss.Perm (intKeys D0) ∧
      w'.ownsRow (w.alloc (.cells #[.map (some b)] 77)).heap.size 2 1 v ss.length ((ss.mergeSort (fun x y => decide (x ≤ y))).map encZ) ∧ (v = .slice none 0 0 ↔ ss = []) ∧ Below (w.alloc (.cells #[.map (some b)] 77)).heap.size (w.alloc (.cells #[.map (some b)] 77)) w' := by
  have hbl := hown.lt
  have hseq : SeqGives Fence.wide 2 Tryz.prog 75 #[.pointer (some ⟨w.heap.size, 0, none⟩)] encZ (fun ss => ss.Perm (intKeys D0)) (Maps.size D0) (w.alloc (.cells #[.map (some b)] 77)) :=
    AnyZI.keys_gives (ρ := Tryz.keysI_ren) { Tryz.keysI with } Fence.wide _ trivial rfl (by omega) w.heap.size b nn D0 _ (by simp) (by simp) (by
      obtain ⟨es, clock, hb, Ft, hs, hD⟩ := hown
      exact ⟨es, clock, (Below.heap_alloc _ _ b hbl).trans hb, Ft, hs, hD⟩)
  exact AnyZI.sorted_in Tryz.sortedI Fence.wide 5 trivial trivial trivial trivial rfl (by omega) (Tryz.sortsI _) (enters_of Tryz.func74 (by kernel_rfl) rfl) 75 #[.pointer (some ⟨w.heap.size, 0, none⟩)] trivial (enters_of Tryz.func75 (by kernel_rfl) rfl) _ _ hmax hbytes _ hseq
end Go.Proofs
end
namespace Go.Proofs.YtkdahjnmldeklaaGreat.PA
open Go.RowKit Go.Proofs.YtkdahjnmldeklaaGreatW.PrintWords Go.Proofs.YtkdahjnmldeklaaGreatW.PrintLast Go.Proofs.YtkdahjnmldeklaaGreatW.PrintMore
set_option linter.unusedVariables false
set_option linter.unusedSimpArgs false
set_option maxRecDepth 100000
set_option maxHeartbeats 8000000
section
attribute [local go_sem] max2_int min2_int max_two min_two max_three min_three max_four min_four   -- for this text's walks alone
def colloquyref01_SameBytes.l0 : Nat → List Int → List Int → Int → Option (Bool)
  | 0, _, _, _ => none
  | k + 1, x0, x1, x5 => if x5 < (x0.length : Int) then (if 0 ≤ x5 then (if x5 < (x1.length : Int) then (if (rd x0 x5) = (rd x1 x5) then (colloquyref01_SameBytes.l0 k x0 x1 (wrap64 (x5 + 1))) else (some false)) else (none)) else (none)) else (some true)
def colloquyref01_SameBytes.f (k : Nat) (l0 : List Int) (l1 : List Int) : Option (Bool) := if (l0.length : Int) = (l1.length : Int) then (colloquyref01_SameBytes.l0 k l0 l1 0) else (some false)
theorem colloquyref01_SameBytes.mono_l : ∀ k, (∀ y0 y1 y2, LeO (colloquyref01_SameBytes.l0 k y0 y1 y2) (colloquyref01_SameBytes.l0 (k + 1) y0 y1 y2))
  | 0 => fun _ _ _ r h => by simp [colloquyref01_SameBytes.l0] at h
  | k + 1 => by
    have ih0 := colloquyref01_SameBytes.mono_l k
    · intro y0 y1 y2
      unfold colloquyref01_SameBytes.l0
      repeat' first
      | (with_reducible exact ih0 _ _ _)
      | (with_reducible exact LeO.refl _)
      | (with_reducible exact LeO.none _)
      | (with_reducible refine LeO.ite ?_ ?_)
      | (with_reducible refine LeO.bind ?_ (fun _ => ?_))
      | exact ih0 _ _ _
      | exact LeO.none _
      | refine LeO.ite ?_ ?_
      | refine LeO.bind ?_ (fun _ => ?_)
theorem colloquyref01_SameBytes.mono : ∀ a0 a1 k, LeO (colloquyref01_SameBytes.f k a0 a1) (colloquyref01_SameBytes.f (k + 1) a0 a1) := by
  intro a0 a1 k
  have ih0 := colloquyref01_SameBytes.mono_l k
  unfold colloquyref01_SameBytes.f
  repeat' first
      | (with_reducible exact ih0 _ _ _)
      | (with_reducible exact LeO.refl _)
      | (with_reducible exact LeO.none _)
      | (with_reducible refine LeO.ite ?_ ?_)
      | (with_reducible refine LeO.bind ?_ (fun _ => ?_))
      | exact ih0 _ _ _
      | exact LeO.none _
      | refine LeO.ite ?_ ?_
      | refine LeO.bind ?_ (fun _ => ?_)
theorem colloquyref01_SameBytes.calls (k : Nat) (A0 : Option Addr) (c0 : Nat) (l0 : List Int) (A1 : Option Addr) (c1 : Nat) (l1 : List Int) (r : Bool) (w : World) (hr0 : Kd.C (Kd.int .u8) w A0 l0.length l0) (hc0 : l0.length ≤ c0) (hr1 : Kd.C (Kd.int .u8) w A1 l1.length l1) (hc1 : l1.length ≤ c1) (h : colloquyref01_SameBytes.f k l0 l1 = some r) :
    Calls Tryz.prog 44 #[.slice A0 l0.length c0, .slice A1 l1.length c1] w fun e w' => e = .returned (.bool r) ∧ Drawn0 w w' := by
  have HR0 := Aside0.mk hr0
  have HC0 := Aside0.mk hc0
  clear hr0 hc0
  have HR1 := Aside0.mk hr1
  have HC1 := Aside0.mk hc1
  clear hr1 hc1
  have H : (if (l0.length : Int) = (l1.length : Int) then (colloquyref01_SameBytes.l0 k l0 l1 0) else (some false)) = some r := h
  clear h
  by_cases c3 : (l0.length : Int) = (l1.length : Int)
  · rw [if_pos c3] at H
    have c3b0 : ((l0.length : Int) == (l1.length : Int)) = true := beq_iff_eq.mpr c3
    have c3b1 : ((l0.length : Int) != (l1.length : Int)) = false := bne_eq_false_iff_eq.mpr c3
    have c3b2 : (l0.length == l1.length) = true := by first | simpa using c3 | (simp at c3 ⊢; omega)
    clear c3
    have H' := Aside0.mk H
    clear H
    go_enter Tryz.func44, Tryz.ntmps44
    go_wp2
    repeat (go_quiet (fail); try go_wp2)
    go_loopg [5] k (fun kq v5 w' => ∃ (x5_1 : Int), v5 = .int .i64 x5_1 ∧ Aside0 (colloquyref01_SameBytes.l0 kq l0 l1 x5_1 = some r) ∧ Aside0 (kq ≤ k) ∧ Drawn0 w w')
    case atStart => exact ⟨(0), (by first | rfl | (simp; done) | (simp [*]; done)), H', ⟨Nat.le_refl _⟩, by repeat (first | exact Drawn0.refl _ | apply Drawn0.step)⟩
    case round =>
      clear H'
      try clear c1
      try clear p2
      try clear c3
      try clear c3b0
      try clear c3b1
      try clear c3b2
      obtain ⟨x5_1, rfl, HA, HK1, ⟨m1, rfl⟩⟩ := hrel
      cases gk with
      | zero => exact absurd HA.out (by simp [colloquyref01_SameBytes.l0])
      | succ k1 =>
        have H := HA.out
        clear HA
        simp only [colloquyref01_SameBytes.l0] at H
        by_cases c4 : x5_1 < (l0.length : Int)
        · rw [if_pos c4] at H
          have c4b0 : decide (x5_1 < (l0.length : Int)) = true := decide_eq_true c4
          clear c4
          by_cases c5 : 0 ≤ x5_1
          · rw [if_pos c5] at H
            have c5b0 : decide (0 ≤ x5_1) = true := decide_eq_true c5
            clear c5
            by_cases c6 : x5_1 < (l1.length : Int)
            · rw [if_pos c6] at H
              have c6b0 : decide (x5_1 < (l1.length : Int)) = true := decide_eq_true c6
              clear c6
              by_cases c7 : (rd l0 x5_1) = (rd l1 x5_1)
              · rw [if_pos c7] at H
                have c7b0 : ((rd l0 x5_1) == (rd l1 x5_1)) = true := beq_iff_eq.mpr c7
                have c7b1 : ((rd l0 x5_1) != (rd l1 x5_1)) = false := bne_eq_false_iff_eq.mpr c7
                clear c7
                have H' := Aside0.mk H
                clear H
                have p549 : 0 ≤ (x5_1 : Int) := of_decide_eq_true (by first | (with_reducible assumption) | assumption)
                have q549 : x5_1 < (l0.length : Int) := of_decide_eq_true (by first | (with_reducible assumption) | assumption)
                obtain ⟨ad549, e549, hx549_0⟩ := Kd.at_int HR0.out x5_1 p549 q549
                cases e549
                replace p549 := eq_true p549
                replace q549 := eq_true q549
                have p550 : 0 ≤ (x5_1 : Int) := of_decide_eq_true (by first | (with_reducible assumption) | assumption)
                have q550 : x5_1 < (l1.length : Int) := of_decide_eq_true (by first | (with_reducible assumption) | assumption)
                obtain ⟨ad550, e550, hx550_0⟩ := Kd.at_int HR1.out x5_1 p550 q550
                cases e550
                replace p550 := eq_true p550
                replace q550 := eq_true q550
                go_wp2
                repeat (go_quiet (fail); try go_wp2)
                go_roundg k1
                case measure => have := HK1.out; omega
                case rel => exact ⟨(wrap64 (x5_1 + 1)), (by first | rfl | (simp; done) | (simp [*]; done)), H', ⟨by have := HK1.out; omega⟩, by repeat (first | exact Drawn0.refl _ | apply Drawn0.step)⟩
              · rw [if_neg c7] at H
                have c7b0 : ((rd l0 x5_1) == (rd l1 x5_1)) = false := beq_eq_false_iff_ne.mpr c7
                have c7b1 : ((rd l0 x5_1) != (rd l1 x5_1)) = true := bne_iff_ne.mpr c7
                obtain rfl := Option.some.inj H
                have p549 : 0 ≤ (x5_1 : Int) := of_decide_eq_true (by first | (with_reducible assumption) | assumption)
                have q549 : x5_1 < (l0.length : Int) := of_decide_eq_true (by first | (with_reducible assumption) | assumption)
                obtain ⟨ad549, e549, hx549_0⟩ := Kd.at_int HR0.out x5_1 p549 q549
                cases e549
                replace p549 := eq_true p549
                replace q549 := eq_true q549
                have p550 : 0 ≤ (x5_1 : Int) := of_decide_eq_true (by first | (with_reducible assumption) | assumption)
                have q550 : x5_1 < (l1.length : Int) := of_decide_eq_true (by first | (with_reducible assumption) | assumption)
                obtain ⟨ad550, e550, hx550_0⟩ := Kd.at_int HR1.out x5_1 p550 q550
                cases e550
                replace p550 := eq_true p550
                replace q550 := eq_true q550
                go_wp2
                repeat (go_quiet (fail); try go_wp2)
                go_ret
                exact ⟨by first | rfl | (simp; done) | (simp [*]; done), by repeat (first | exact Drawn0.refl _ | apply Drawn0.step)⟩
            · rw [if_neg c6] at H
              exact absurd H (by simp)
          · rw [if_neg c5] at H
            exact absurd H (by simp)
        · rw [if_neg c4] at H
          have c4b0 : decide (x5_1 < (l0.length : Int)) = false := decide_eq_false c4
          clear c4
          obtain rfl := Option.some.inj H
          go_wp2
          repeat (go_quiet (fail); try go_wp2)
          go_ret
          exact ⟨by first | rfl | (simp; done) | (simp [*]; done), by repeat (first | exact Drawn0.refl _ | apply Drawn0.step)⟩
  · rw [if_neg c3] at H
    have c3b0 : ((l0.length : Int) == (l1.length : Int)) = false := beq_eq_false_iff_ne.mpr c3
    have c3b1 : ((l0.length : Int) != (l1.length : Int)) = true := bne_iff_ne.mpr c3
    have c3b2 : (l0.length == l1.length) = false := by first | simpa using c3 | (simp at c3 ⊢; omega)
    obtain rfl := Option.some.inj H
    go_enter Tryz.func44, Tryz.ntmps44
    go_wp2
    repeat (go_quiet (fail); try go_wp2)
    go_ret
    exact ⟨by first | rfl | (simp; done) | (simp [*]; done), by repeat (first | exact Drawn0.refl _ | apply Drawn0.step)⟩
end
namespace Same_
theorem wrap_in {i : Int} (h0 : -9223372036854775808 ≤ i) (h : i ≤ 9223372036854775807) : wrap64 i = i := by
  unfold wrap64
  omega
theorem drop_rd (xs : List Int) (n : Nat) (h : n < xs.length) : xs.drop n = rd xs n :: xs.drop (n + 1) := by
  rw [List.drop_eq_getElem_cons h]
  unfold rd
  rw [Int.toNat_natCast, List.getD_eq_getElem?_getD, List.getElem?_eq_getElem h]
  rfl
theorem same_l (xs ys : List Int) (hl : xs.length = ys.length) (hm : xs.length ≤ 281474976710656) : ∀ (d i : Nat), i ≤ xs.length → d = xs.length - i →
    Ev (fun k => colloquyref01_SameBytes.l0 k xs ys i) (decide (xs.drop i = ys.drop i)) := by
  intro d
  induction d with
  | zero =>
    intro i hi hd
    refine Ev.step (f := fun _ => some (decide (xs.drop i = ys.drop i))) (fun k => ?_) (Ev.now _)
    simp only [colloquyref01_SameBytes.l0]
    rw [if_neg (by omega), List.drop_of_length_le (by omega), List.drop_of_length_le (by omega)]
    simp
  | succ d ih =>
    intro i hi hd
    have h1 : i < xs.length := by omega
    have h2 : i < ys.length := by omega
    by_cases e : rd xs i = rd ys i
    · refine Ev.step (f := fun k => colloquyref01_SameBytes.l0 k xs ys ((i + 1 : Nat) : Int)) (fun k => ?_) ?_
      · simp only [colloquyref01_SameBytes.l0]
        rw [if_pos (by omega), if_pos (by omega), if_pos (by omega), if_pos e, wrap_in (by omega) (by omega)]
        rfl
      · have := ih (i + 1) (by omega) (by omega)
        rw [drop_rd xs i h1, drop_rd ys i h2, e]
        simpa using this
    · refine Ev.step (f := fun _ => some false) (fun k => ?_) ?_
      · simp only [colloquyref01_SameBytes.l0]
        rw [if_pos (by omega), if_pos (by omega), if_pos (by omega), if_neg e]
      · rw [drop_rd xs i h1, drop_rd ys i h2]
        have : decide (rd xs i :: xs.drop (i + 1) = rd ys i :: ys.drop (i + 1)) = false := by simp [e]
        rw [this]
        exact Ev.now _
theorem same_ev (xs ys : List Int) (hm : xs.length ≤ 281474976710656) : Ev (fun k => colloquyref01_SameBytes.f k xs ys) (decide (xs = ys)) := by
  unfold colloquyref01_SameBytes.f
  by_cases e : xs.length = ys.length
  · refine Ev.congr (f := fun k => colloquyref01_SameBytes.l0 k xs ys 0) (fun k => if_pos (by omega)) ?_
    simpa using same_l xs ys e hm xs.length 0 (by omega) (by omega)
  · refine Ev.congr (f := fun _ => some false) (fun k => if_neg (by omega)) ?_
    have : decide (xs = ys) = false := by
      simp
      intro h
      exact e (by rw [h])
    rw [this]
    exact Ev.now _
end Same_
theorem same_calls (A0 : Option Addr) (c0 : Nat) (l0 : List Int) (A1 : Option Addr) (c1 : Nat) (l1 : List Int) (w : World) (hr0 : Kd.C (Kd.int .u8) w A0 l0.length l0) (hc0 : l0.length ≤ c0) (hr1 : Kd.C (Kd.int .u8) w A1 l1.length l1) (hc1 : l1.length ≤ c1) (hm : l0.length ≤ 281474976710656) :
    Calls Tryz.prog 44 #[.slice A0 l0.length c0, .slice A1 l1.length c1] w fun e w' => e = .returned (.bool (decide (l0 = l1))) ∧ Below w.heap.size w w' := by
  obtain ⟨k, hk⟩ := Ev.rounds (Same_.same_ev l0 l1 hm)
  exact (colloquyref01_SameBytes.calls k A0 c0 l0 A1 c1 l1 _ w hr0 hc0 hr1 hc1 hk).mono fun e w' h => ⟨h.1, Drawn0.below h.2⟩
theorem clone0 (A0 : Option Addr) (c0 : Nat) (l : List Int) (w : World) (hr : Kd.C (Kd.int .u8) w A0 l.length l) (hc : l.length ≤ c0) (hl : l.length < 140737488355328) :
    Calls Tryz.prog 34 #[.slice A0 l.length c0] w fun e w' => ∃ A c S, e = .returned (.slice A l.length c) ∧ Out w w' (fun _ => False) [Chunk.row (Kd.int .u8) 5 w.heap.size S (.slice A l.length c) l] := by
  refine (clone_bytes A0 c0 l w hr hc hl).mono ?_
  rintro e w' ⟨A, c, rfl, h, hb⟩
  exact ⟨A, c, _, rfl, Out.row h hb⟩
section
open Go.Maps Go.Sort
abbrev PI := Int × List Int
def litI (n : Int) : Lit := .int .i64 n
theorem litI_same (a b : Int) : (litI a).sameKey (litI b) = decide (a = b) := by simp [litI, Lit.sameKey]
structure XJ where
  key : Int
  b : List Int
  A : Option Addr
  c : Nat
  S : Nat → Prop
def XJ.p (x : XJ) : PI := (x.key, x.b)
def XJ.ent (x : XJ) : Lit × Value := (litI x.key, .slice x.A x.b.length x.c)
def getJ (k : Int) (is : List PI) : Option (List Int) := (is.find? fun x => decide (x.1 = k)).map (·.2)
def hasJ (k : Int) (is : List PI) : Bool := (getJ k is).isSome
def onceJ (is : List PI) : Prop := is.Pairwise fun x y => x.1 ≠ y.1
theorem getJ_iff {k : Int} {b : List Int} {is : List PI} (h : onceJ is) : getJ k is = some b ↔ (k, b) ∈ is := by
  unfold getJ
  constructor
  · intro e
    obtain ⟨x, hx, rfl⟩ := Option.map_eq_some_iff.1 e
    have h1 := List.find?_some hx
    have h2 := List.mem_of_find?_eq_some hx
    simp only [decide_eq_true_eq] at h1
    subst h1
    exact h2
  · intro hm
    cases hf : is.find? fun x => decide (x.1 = k) with
    | none =>
      have := List.find?_eq_none.1 hf (k, b) hm
      simp at this
    | some x =>
      have h1 := List.find?_some hf
      have h2 := List.mem_of_find?_eq_some hf
      simp only [decide_eq_true_eq] at h1
      have : x = (k, b) := by
        by_cases e : x = (k, b)
        · exact e
        · obtain ⟨i, hi, rfl⟩ := List.getElem_of_mem h2
          obtain ⟨j, hj, ej⟩ := List.getElem_of_mem hm
          rcases Nat.lt_trichotomy i j with hij | hij | hij
          · have := List.pairwise_iff_getElem.1 h i j hi hj hij
            rw [ej] at this
            exact absurd h1 this
          · subst hij
            exact ej
          · have := List.pairwise_iff_getElem.1 h j i hj hi hij
            rw [ej] at this
            exact absurd h1.symm this
      rw [this]
      rfl
theorem onceJ_perm {is js : List PI} (h : onceJ is) (hp : is.Perm js) : onceJ js := (hp.pairwise_iff (fun {a b} hab => fun e => hab e.symm)).1 h
theorem getJ_perm {k : Int} {is js : List PI} (h : onceJ is) (hp : is.Perm js) : getJ k is = getJ k js := by
  refine Option.ext fun b => ?_
  rw [getJ_iff h, getJ_iff (onceJ_perm h hp)]
  exact hp.mem_iff
theorem hasJ_iff {k : Int} {is : List PI} : hasJ k is = true ↔ ∃ x ∈ is, x.1 = k := by
  unfold hasJ getJ
  rw [Option.isSome_map, List.find?_isSome]
  simp
theorem hasJ_false {k : Int} {is : List PI} : hasJ k is = false ↔ ∀ x ∈ is, x.1 ≠ k := by
  rw [← Bool.not_eq_true, hasJ_iff]
  constructor
  · intro h x hx e; exact h ⟨x, hx, e⟩
  · rintro h ⟨x, hx, e⟩; exact h x hx e
def entryP (p : List Int) : Option (Int × Nat) := match gnum p with
  | none => none
  | some (n, k) => if 536870912 < (p.length : Int) - k ∨ 1099511627776 < n then none else some (n, k)
theorem entry_none1 {p : List Int} (h : gnum p = none) : entryP p = none := by unfold entryP; rw [h]
theorem entry_none2 {p : List Int} {n : Int} {k : Nat} (h : gnum p = some (n, k)) (h2 : 536870912 < (p.length : Int) - k ∨ 1099511627776 < n) : entryP p = none := by unfold entryP; rw [h]; exact if_pos h2
theorem entry_some {p : List Int} {n : Int} {k : Nat} (h : gnum p = some (n, k)) (h1 : (p.length : Int) - k ≤ 536870912) (h2 : n ≤ 1099511627776) : entryP p = some (n, k) := by unfold entryP; rw [h]; exact if_neg (by omega)
def recI (x : PI) : List Int := Pure.recOf (encN x.1 ++ x.2)
theorem encN_byte (n : Int) : ByteL (encN n) := by
  have h : ∀ f u, ByteL (putN f u) := by
    intro f
    induction f with
    | zero => intro u x hx; simp [putN] at hx
    | succ f ih =>
      intro u x hx
      unfold putN at hx
      split at hx
      · rcases List.mem_cons.1 hx with rfl | hx
        · omega
        · exact ih _ x hx
      · simp only [List.mem_singleton] at hx
        omega
  exact h _ _
theorem byteL_app {l m : List Int} (h : ByteL l) (k : ByteL m) : ByteL (l ++ m) := fun x hx => (List.mem_append.1 hx).elim (h x) (k x)
theorem encN_len (n : Int) : (encN n).length ≤ 9 := enc_len 9 _
theorem recI_len (x : PI) : (recI x).length = (encN x.1).length + x.2.length + 8 := by unfold recI; rw [Pure.recOf_length, List.length_append]
def putJ (nm : ByteArray) (k : Int) (b : List Int) (is : List PI) (size : Int) (d : PD) : (PD × Int) × (List PI × Int) :=
  if k < 0 ∨ 1099511627776 < k then ((d, 1), (is, size)) else if 536870912 < (b.length : Int) then ((d, 2), (is, size)) else if hasJ k is = true then ((d, 5), (is, size))
  else (appendD nm (recI (k, b)) d, if (appendD nm (recI (k, b)) d).2 = 0 then (is ++ [(k, b)], size + (recI (k, b)).length) else (is, size))
section
variable {nm : ByteArray} {k : Int} {b : List Int} {is : List PI} {size : Int} {d : PD}
theorem put_arg (h : k < 0 ∨ 1099511627776 < k) : putJ nm k b is size d = ((d, 1), (is, size)) := if_pos h
theorem put_long (h : 0 ≤ k ∧ k ≤ 1099511627776) (h2 : 536870912 < (b.length : Int)) : putJ nm k b is size d = ((d, 2), (is, size)) := by unfold putJ; rw [if_neg (by omega), if_pos h2]
theorem put_twice (h : 0 ≤ k ∧ k ≤ 1099511627776) (h2 : (b.length : Int) ≤ 536870912) (h3 : hasJ k is = true) : putJ nm k b is size d = ((d, 5), (is, size)) := by unfold putJ; rw [if_neg (by omega), if_neg (by omega), if_pos h3]
theorem put_fail (h : 0 ≤ k ∧ k ≤ 1099511627776) (h2 : (b.length : Int) ≤ 536870912) (h3 : hasJ k is = false) (h4 : (appendD nm (recI (k, b)) d).2 ≠ 0) : putJ nm k b is size d = (appendD nm (recI (k, b)) d, (is, size)) := by
  unfold putJ; rw [if_neg (by omega), if_neg (by omega), if_neg (by rw [h3]; decide), if_neg h4]
theorem put_ok (h : 0 ≤ k ∧ k ≤ 1099511627776) (h2 : (b.length : Int) ≤ 536870912) (h3 : hasJ k is = false) (h4 : (appendD nm (recI (k, b)) d).2 = 0) : putJ nm k b is size d = (appendD nm (recI (k, b)) d, (is ++ [(k, b)], size + (recI (k, b)).length)) := by
  unfold putJ; rw [if_neg (by omega), if_neg (by omega), if_neg (by rw [h3]; decide), if_pos h4]
end
def scanS : Nat → List Int → List PI → Int → List PI × Int
  | 0, _, is, sz => (is, sz)
  | f + 1, b, is, sz => if (Pure.splitOf b).2.2 = true then (match entryP (Pure.splitOf b).1 with
      | none => (is, sz)
      | some (n, k) => if hasJ n is = true then (is, sz) else scanS f (b.drop (Pure.splitOf b).2.1.toNat) (is ++ [(n, (Pure.splitOf b).1.drop k)]) (sz + (Pure.splitOf b).2.1)) else (is, sz)
def scanJ (b : List Int) : List PI × Int := scanS (b.length + 1) b [] 0
section
variable {f : Nat} {b : List Int} {is : List PI} {sz n : Int} {k : Nat}
theorem scan_stop1 (h : (Pure.splitOf b).2.2 = false) : scanS f b is sz = (is, sz) := by
  cases f with
  | zero => rfl
  | succ f => unfold scanS; rw [if_neg (by rw [h]; decide)]
theorem scan_stop2 (h : (Pure.splitOf b).2.2 = true) (h2 : entryP (Pure.splitOf b).1 = none) : scanS f b is sz = (is, sz) := by
  cases f with
  | zero => rfl
  | succ f => unfold scanS; rw [if_pos h, h2]
theorem scan_stop3 (h : (Pure.splitOf b).2.2 = true) (h2 : entryP (Pure.splitOf b).1 = some (n, k)) (h3 : hasJ n is = true) : scanS f b is sz = (is, sz) := by
  cases f with
  | zero => rfl
  | succ f => unfold scanS; rw [if_pos h, h2]; exact if_pos h3
theorem scan_go (hf : 0 < f) (h : (Pure.splitOf b).2.2 = true) (h2 : entryP (Pure.splitOf b).1 = some (n, k)) (h3 : hasJ n is = false) : scanS f b is sz = scanS (f - 1) (b.drop (Pure.splitOf b).2.1.toNat) (is ++ [(n, (Pure.splitOf b).1.drop k)]) (sz + (Pure.splitOf b).2.1) := by
  cases f with
  | zero => omega
  | succ f =>
    conv => lhs; unfold scanS
    rw [if_pos h, h2]
    exact if_neg (by rw [h3]; decide)
theorem split_in (h : (Pure.splitOf b).2.2 = true) : (Pure.splitOf b).2.1 = (Pure.splitOf b).1.length + 8 ∧ (Pure.splitOf b).1.length + 8 ≤ b.length := by
  obtain ⟨h1, h2, _, h4⟩ := Pure.split_bool _ h
  rw [h4]
  simp only [List.length_take, List.length_drop]
  omega
theorem split_byte (hb : ByteL b) : ByteL (Pure.splitOf b).1 := by
  unfold Pure.splitOf
  split
  · intro x hx; simp at hx
  · split
    · exact fun x hx => hb x (List.mem_of_mem_drop (List.mem_of_mem_take hx))
    · intro x hx; simp at hx
theorem split_len (b : List Int) : (Pure.splitOf b).1.length ≤ b.length := by
  unfold Pure.splitOf
  split
  · simp
  · split
    · simp only [List.length_take, List.length_drop]; omega
    · simp
theorem entry_in {p : List Int} (h : entryP p = some (n, k)) : 0 ≤ n ∧ n ≤ 1099511627776 ∧ k ≤ p.length ∧ gnum p = some (n, k) ∧ (p.length : Int) - k ≤ 536870912 := by
  unfold entryP at h
  split at h
  · cases h
  · rename_i n' k' hg
    have := gnum_some hg
    split at h
    · cases h
    · injection h with h
      injection h with h1 h2
      subst h1 h2
      exact ⟨by omega, by omega, by omega, hg, by omega⟩
theorem wf_i64 (h : -9223372036854775808 ≤ n ∧ n ≤ 9223372036854775807) : (Lit.int .i64 n).wf = true := by simp [Lit.wf, IntKind.signed, IntKind.min, IntKind.max, IntKind.bits]; omega
theorem read_len {d : PD} {nm : ByteArray} (hw : wfD d) : ((readD nm d).1.length : Int) ≤ d.used := by
  have h0 := hw.used
  cases hd : d.down
  · cases hg : getF nm d.fs with
    | none => rw [read_none hd hg]; show ((0 : Nat) : Int) ≤ _; omega
    | some f => rw [read_some hd hg]; exact wf_len hw (getF_mem hg).1
  · rw [read_down hd]; show ((0 : Nat) : Int) ≤ _; omega
end
def preJ (nm : ByteArray) (d : PD) : PD × Int := if (readD nm d).2 = 4 then createD nm d else (d, (readD nm d).2)
def openJ (nm : ByteArray) (d : PD) : (PD × Int) × (List PI × Int) :=
  if (preJ nm d).2 ≠ 0 then (preJ nm d, ([], 0)) else
    let s := scanJ (readD nm d).1
    let c := if s.2 < ((readD nm d).1.length : Int) then cutD nm s.2 (preJ nm d).1 else ((preJ nm d).1, 0)
    if c.2 ≠ 0 then (c, s) else (syncD nm c.1, s)
section
variable {nm : ByteArray} {d d1 : PD} {e8 sz : Int} {is : List PI}
theorem open1 (h : preJ nm d = (d1, e8)) (h2 : e8 ≠ 0) : openJ nm d = ((d1, e8), ([], 0)) := by unfold openJ; rw [h]; exact if_pos h2
theorem open2 (h : preJ nm d = (d1, e8)) (h2 : e8 = 0) (h3 : scanJ (readD nm d).1 = (is, sz)) (h4 : sz < ((readD nm d).1.length : Int)) (h5 : (cutD nm sz d1).2 ≠ 0) : openJ nm d = (cutD nm sz d1, (is, sz)) := by
  unfold openJ
  rw [h, h3]
  simp only
  rw [if_neg (by simpa using h2), if_pos h4, if_pos h5]
theorem open3 (h : preJ nm d = (d1, e8)) (h2 : e8 = 0) (h3 : scanJ (readD nm d).1 = (is, sz)) (h4 : sz < ((readD nm d).1.length : Int)) (h5 : (cutD nm sz d1).2 = 0) : openJ nm d = (syncD nm (cutD nm sz d1).1, (is, sz)) := by
  unfold openJ
  rw [h, h3]
  simp only
  rw [if_neg (by simpa using h2), if_pos h4, if_neg (by simpa using h5)]
theorem open4 (h : preJ nm d = (d1, e8)) (h2 : e8 = 0) (h3 : scanJ (readD nm d).1 = (is, sz)) (h4 : ¬ sz < ((readD nm d).1.length : Int)) : openJ nm d = (syncD nm d1, (is, sz)) := by
  unfold openJ
  rw [h, h3]
  simp only
  rw [if_neg (by simpa using h2), if_neg h4, if_neg (by simp)]
end
def insJ (x : XJ) : List XJ → List XJ
  | [] => [x]
  | y :: r => if (litI x.key).before (litI y.key) then x :: y :: r else y :: insJ x r
theorem insJ_ent (x : XJ) : ∀ l, (insJ x l).map XJ.ent = linsert x.ent (l.map XJ.ent)
  | [] => rfl
  | y :: r => by
    unfold insJ
    rw [List.map_cons, linsert]
    show _ = if (litI x.key).before (litI y.key) then _ else _
    split
    · rfl
    · rw [List.map_cons, insJ_ent x r]
theorem insJ_perm (x : XJ) : ∀ l, (insJ x l).Perm (x :: l)
  | [] => List.Perm.refl _
  | y :: r => by
    unfold insJ
    split
    · exact List.Perm.refl _
    · exact ((insJ_perm x r).cons y).trans (List.Perm.swap x y r)
theorem lput_new {x : XJ} {xs : List XJ} (h : ∀ y ∈ xs, y.key ≠ x.key) : lput (litI x.key) (.slice x.A x.b.length x.c) (xs.map XJ.ent) = (insJ x xs).map XJ.ent := by
  have e : ldel (litI x.key) (xs.map XJ.ent) = xs.map XJ.ent := by
    unfold ldel
    refine List.filter_eq_self.2 fun p hp => ?_
    obtain ⟨y, hy, rfl⟩ := List.mem_map.1 hp
    show (!(litI y.key).sameKey (litI x.key)) = true
    rw [litI_same]
    simp [h y hy]
  unfold lput
  rw [e, insJ_ent]
  rfl
theorem once_of_rising2 {xs : List XJ} (h : risingL (xs.map XJ.ent)) : onceJ (xs.map XJ.p) := by
  have := List.pairwise_map.1 h
  refine List.pairwise_map.2 (this.imp fun {x y} hb e => ?_)
  have hb' : (litI x.key).before (litI y.key) = true := hb
  have e' : x.key = y.key := e
  rw [e', Go.WideShapes.before_irrefl] at hb'
  cases hb'
theorem lookJ (k : Int) (xs : List XJ) : (lfind (litI k) (xs.map XJ.ent) = none ∧ getJ k (xs.map XJ.p) = none ∧ ∀ x ∈ xs, x.key ≠ k) ∨
    ∃ x ∈ xs, x.key = k ∧ lfind (litI k) (xs.map XJ.ent) = some (.slice x.A x.b.length x.c) ∧ getJ k (xs.map XJ.p) = some x.b := by
  have e1 : lfind (litI k) (xs.map XJ.ent) = (xs.find? fun x => decide (x.key = k)).map fun x => .slice x.A x.b.length x.c := by
    unfold lfind
    rw [List.find?_map, Option.map_map]
    congr 1
    congr 1
    funext x
    exact litI_same _ _
  have e2 : getJ k (xs.map XJ.p) = (xs.find? fun x => decide (x.key = k)).map XJ.b := by
    unfold getJ
    rw [List.find?_map, Option.map_map]
    rfl
  rw [e1, e2]
  cases hf : xs.find? fun x => decide (x.key = k) with
  | none =>
    refine .inl ⟨rfl, rfl, fun x hx => ?_⟩
    have := List.find?_eq_none.1 hf x hx
    simpa using this
  | some x =>
    have h1 := List.find?_some hf
    exact .inr ⟨x, List.mem_of_find?_eq_some hf, by simpa using h1, rfl, rfl⟩
def Chunk.jrow (base : Nat) (x : XJ) : Chunk := Chunk.row (Kd.int .u8) 5 base x.S (.slice x.A x.b.length x.c) x.b
def Chunk.jrows (base : Nat) (xs : List XJ) : Chunk := Chunk.all (xs.map (Chunk.jrow base))
def jcells (gd : Nat) (nm : ByteArray) (gm : Nat) (size : Int) : List Value := [.pointer (some ⟨gd, 0, none⟩), .string nm, .map (some gm), .int .i64 size]
def jourL (base gd gj gm : Nat) (nm : ByteArray) (size : Int) (xs : List XJ) : List Chunk := [Bk gj (jcells gd nm gm size) 79, Chunk.lmap Tryz.prog 2 gm (xs.map XJ.ent), Chunk.jrows base xs]
def Chunk.jour (base gd gj : Nat) (nm : ByteArray) (S : Nat → Prop) (is : List PI) (size : Int) : Chunk := ⟨S, fun w => ∃ gm xs, (xs.map XJ.p).Perm is ∧ (Chunk.all (jourL base gd gj gm nm size xs)).P w ∧ ∀ k, (Chunk.all (jourL base gd gj gm nm size xs)).S k → S k, fun h hm => by
  obtain ⟨gm, xs, h1, h2, h3⟩ := h
  exact ⟨gm, xs, h1, (Chunk.all _).move h2 (fun k hk => hm k (h3 k hk)), h3⟩⟩
theorem intKey : Keyed Tryz.prog 2 := int_keyed Tryz.underlying2
section
variable {w0 w : World} {base gd gj gm : Nat} {nm : ByteArray} {S : Nat → Prop} {is : List PI} {size : Int} {L A B : List Chunk} {R Dk : Chunk} {xs : List XJ} {x : XJ}
theorem Own.jour_open (h : Own w0 w (Chunk.jour base gd gj nm S is size :: L)) : ∃ gm xs, (xs.map XJ.p).Perm is ∧ onceJ (xs.map XJ.p) ∧ Own w0 w (jourL base gd gj gm nm size xs ++ L) := by
  obtain ⟨gm, xs, h1, h2, h3⟩ := h.get 0 rfl
  have h4 : Own w0 w (Chunk.all (jourL base gd gj gm nm size xs) :: L) := h.calls (cs := []) 0 rfl (Out.one (Out.refl w _) h2 fun k hk => ⟨.inl (h3 k hk), (h.lt 0 rfl (h3 k hk)).2⟩)
  have h5 := h4.unbundle
  exact ⟨gm, xs, h1, once_of_rising2 (lmap_rising intKey (h5.get 1 rfl)).1, h5⟩
theorem Own.jour_close (h : Own w0 w (jourL base gd gj gm nm size xs ++ L)) (hx : (xs.map XJ.p).Perm is) : ∃ S, Own w0 w (Chunk.jour base gd gj nm S is size :: L) := by
  have h1 := h.bundle
  exact ⟨(Chunk.all (jourL base gd gj gm nm size xs)).S, h1.calls (cs := []) 0 rfl (Out.one (Out.refl w _) (c := Chunk.jour base gd gj nm (Chunk.all (jourL base gd gj gm nm size xs)).S is size) ⟨gm, xs, hx, h1.get 0 rfl, fun k hk => hk⟩ fun k hk => ⟨.inl hk, (h1.lt 0 rfl hk).2⟩)⟩
theorem jour_open2 (h : Own w0 w [R, Dk, Chunk.jour base gd gj nm S is size]) : ∃ gm xs, (xs.map XJ.p).Perm is ∧ onceJ (xs.map XJ.p) ∧ Own w0 w (R :: Dk :: jourL base gd gj gm nm size xs) := by
  obtain ⟨gm, xs, h1, h2, h3⟩ := Own.jour_open (L := [R, Dk]) (h.sel [2, 0, 1] (by decide))
  exact ⟨gm, xs, h1, h2, h3.sel [3, 4, 0, 1, 2] (by decide)⟩
theorem jour_close2 (hx : (xs.map XJ.p).Perm is) (h : Own w0 w (R :: Dk :: jourL base gd gj gm nm size xs)) : ∃ S, Own w0 w [R, Dk, Chunk.jour base gd gj nm S is size] := by
  obtain ⟨S, h1⟩ := Own.jour_close (L := [R, Dk]) (xs := xs) (gm := gm) (gd := gd) (gj := gj) (base := base) (nm := nm) (size := size) (h.sel [2, 3, 4, 0, 1] (by decide)) hx
  exact ⟨S, h1.sel [1, 2, 0] (by decide)⟩
theorem Own.jrows_nil (h : Own w0 w L) (base : Nat) : Own w0 w (Chunk.jrows base [] :: L) :=
  h.fresh (cs := [_]) (Out.one (Out.refl w _) (c := Chunk.jrows base []) ⟨fun c hc => by simp at hc, by simp⟩ (fun k hk => by obtain ⟨c, hc, _⟩ := hk; simp at hc))
theorem Own.jrow_in (h : Own w0 w (Chunk.jrow base x :: Chunk.jrows base xs :: L)) : Own w0 w (Chunk.jrows base (insJ x xs) :: L) := by
  have h1 : Own w0 w (Chunk.jrows base xs :: (Chunk.jrow base x :: L)) := h.perm (List.Perm.swap _ _ _)
  have h2 : Own w0 w (xs.map (Chunk.jrow base) ++ (Chunk.jrow base x :: L)) := h1.unbundle
  have h3 : Own w0 w ((x :: xs).map (Chunk.jrow base) ++ L) := h2.perm (by rw [List.map_cons]; exact List.perm_middle)
  exact Own.allPerm h3.bundle ((insJ_perm x xs).symm.map _)
theorem jour_blk (h : (Chunk.jour base gd gj nm S is size).P w) : ∃ (gm : Nat) (xs : List XJ), (xs.map XJ.p).Perm is ∧ onceJ (xs.map XJ.p) ∧ w.heap[gj]? = some (.cells (jcells gd nm gm size).toArray 79 (0, 0)) ∧ (Chunk.lmap Tryz.prog 2 gm (xs.map XJ.ent)).P w ∧ ∀ x ∈ xs, (Kd.int .u8).C w x.A x.b.length x.b ∧ x.b.length ≤ x.c := by
  obtain ⟨gm, xs, h1, h2, h3⟩ := h
  have hl : (Chunk.lmap Tryz.prog 2 gm (xs.map XJ.ent)).P w := h2.1 _ (by simp [jourL])
  refine ⟨gm, xs, h1, once_of_rising2 (lmap_rising intKey hl).1, h2.1 (Bk gj _ _) (by simp [jourL]), hl, fun x hx => ?_⟩
  have hf : (Chunk.jrows base xs).P w := h2.1 _ (by simp [jourL])
  have hr : (Kd.int .u8).R 5 w base x.S (.slice x.A x.b.length x.c) x.b := hf.1 (Chunk.jrow base x) (List.mem_map_of_mem hx)
  exact ⟨(Kd.R_reads' hr).2.2, row_cap hr⟩
end
theorem num_new (n : Int) (w : World) : Calls Tryz.prog 47 #[.slice none 0 0, .int .i64 n] w fun e w' => ∃ A' c' S, e = .returned (.slice A' (encN n).length c') ∧ Out w w' (fun _ => False) [Chunk.row (Kd.int .u8) 5 w.heap.size S (.slice A' (encN n).length c') (encN n)] :=
  num_own none 0 [] n w (Kd.C_nil _ _) (Nat.le_refl _) (by decide)
theorem recI_own (k : Int) (b : List Int) (A : Option Addr) (c : Nat) (w : World) (hr : Kd.C (Kd.int .u8) w A (encN k ++ b).length (encN k ++ b)) (hc : (encN k ++ b).length ≤ c) (hb : ByteL b) (h : b.length ≤ 900000) :
    Calls Tryz.prog 46 #[.slice A (encN k ++ b).length c] w fun e w' => ∃ A' c' S, e = .returned (.slice A' (recI (k, b)).length c') ∧ Out w w' (fun _ => False) [Chunk.row (Kd.int .u8) 5 w.heap.size S (.slice A' (recI (k, b)).length c') (recI (k, b))] :=
  record_own A c _ w hr hc (byteL_app (encN_byte k) hb) (by have := encN_len k; rw [List.length_append]; omega)
theorem none_key {k : Int} {xs : List XJ} {is : List PI} (hp : (xs.map XJ.p).Perm is) (h : hasJ k is = false) : ∀ y ∈ xs, y.key ≠ k := fun y hy =>
  hasJ_false.1 h y.p (hp.mem_iff.1 (List.mem_map_of_mem hy))
theorem ins_items {x : XJ} {xs : List XJ} {is : List PI} (hp : (xs.map XJ.p).Perm is) : ((insJ x xs).map XJ.p).Perm (is ++ [x.p]) :=
  (((insJ_perm x xs).map XJ.p).trans ((hp.cons x.p))).trans (List.perm_append_singleton x.p is).symm
theorem keysJ_at (mb : Option Nat) (W : World) : Calls Tryz.prog 51 #[.map mb] W fun e w' => e = .returned (.func (.func 75) #[] #[.pointer (some ⟨W.heap.size, 0, none⟩)]) ∧ w' = W.alloc (.cells #[.map mb] 77) :=
  (callsIn_wide (n := 5)).1 (Tryz.keysI_at mb W)
theorem keys_sorted {xs : List XJ} (h : risingL (xs.map XJ.ent)) : ((intKeys (lmap (xs.map XJ.ent))).mergeSort (fun x y => decide (x ≤ y))).map encZ = encs (Value.int .i64) (xs.map fun x => x.key) := by
  have e1 : intKeys (lmap (xs.map XJ.ent)) = xs.map fun x => x.key := by
    show ((xs.map XJ.ent).map held1).map (fun p => Go.intOf p.1) = _
    rw [List.map_map, List.map_map]
    rfl
  rw [e1]
  have hp : (xs.map fun x => x.key).Pairwise (fun x y => decide (x ≤ y) = true) := by
    refine List.pairwise_map.2 ((List.pairwise_map.1 h).imp fun {x y} hb => ?_)
    have hb' : (litI x.key).before (litI y.key) = true := hb
    simp only [litI, Lit.before, decide_eq_true_eq] at hb'
    exact decide_eq_true (by omega)
  rw [List.mergeSort_of_pairwise hp]
  rfl
theorem keys_rise {xs : List XJ} (h : risingL (xs.map XJ.ent)) : (xs.map fun x => x.key).Pairwise (fun x y => x < y) :=
  List.pairwise_map.2 ((List.pairwise_map.1 h).imp fun {x y} hb => by
    have hb' : (litI x.key).before (litI y.key) = true := hb
    simpa only [litI, Lit.before, decide_eq_true_eq] using hb')
theorem mergeI_perm {l m : List Int} (h : l.Perm m) : l.mergeSort (fun x y => decide (x ≤ y)) = m.mergeSort (fun x y => decide (x ≤ y)) := by
  have ht : ∀ a b c : Int, decide (a ≤ b) = true → decide (b ≤ c) = true → decide (a ≤ c) = true := fun a b c h1 h2 => by simp only [decide_eq_true_eq] at *; omega
  have hto : ∀ a b : Int, (decide (a ≤ b) || decide (b ≤ a)) = true := fun a b => by simp only [Bool.or_eq_true, decide_eq_true_eq]; omega
  refine List.Perm.eq_of_pairwise (le := fun a b => decide (a ≤ b) = true) (fun a b _ _ h1 h2 => by simp only [decide_eq_true_eq] at *; omega) (List.pairwise_mergeSort ht hto l) (List.pairwise_mergeSort ht hto m) ?_
  exact ((List.mergeSort_perm l _).trans h).trans (List.mergeSort_perm m _).symm
theorem sortedJ_at (b : Nat) (xs : List XJ) (w : World) (hm : (Chunk.lmap Tryz.prog 2 b (xs.map XJ.ent)).P w) (hl : xs.length ≤ 1000000) :
    Calls Tryz.prog 50 #[.func (.func 75) #[] #[.pointer (some ⟨w.heap.size, 0, none⟩)]] (w.alloc (.cells #[.map (some b)] 77)) fun e w' => ∃ A c S, e = .returned (.slice A (xs.map fun x => x.key).length c) ∧
      Out (w.alloc (.cells #[.map (some b)] 77)) w' (fun _ => False) [Chunk.row (Kd.int .i64) 2 (w.alloc (.cells #[.map (some b)] 77)).heap.size S (.slice A (xs.map fun x => x.key).length c) (xs.map fun x => x.key)] := by
  have hr := (lmap_rising intKey hm).1
  have hm' : w.ownsMap Tryz.prog 2 anyR b (xs.map XJ.ent).length (lmap (xs.map XJ.ent)) := hm
  refine ((callsIn_wide (n := 5)).1 (Tryz.sortedI_at b _ (lmap (xs.map XJ.ent)) _ w hm' (by rw [lmap_size, List.length_map]; simp only [maxLen]; omega) (by rw [lmap_size, List.length_map]; omega))).mono fun e w' h => ?_
  obtain ⟨v, ss, rfl, hS, hrow, hnil, hb⟩ := h
  have hlen : (xs.map fun x => x.key).length = ss.length := by
    rw [hS.length_eq]
    show _ = (((xs.map XJ.ent).map held1).map (fun p => Go.intOf p.1)).length
    simp only [List.length_map]
  rw [mergeI_perm hS, keys_sorted hr, ← hlen] at hrow
  obtain ⟨A, c, rfl⟩ := own_slice hrow
  exact ⟨A, c, _, rfl, Out.row (d := Kd.int .i64) (ok := fun _ => True) (Kd.R_of_own (enc := Value.int .i64) (h1 := fun _ => rfl) hrow (fun _ _ => trivial)) hb⟩
end
section
open Go.Maps Go.Sort
theorem valN_app (pre l : List Int) : ∀ k, k ≤ pre.length → valN (pre ++ l) k = valN pre k
  | 0, _ => rfl
  | k + 1, h => by
    unfold valN
    rw [valN_app pre l k (by omega)]
    have : (pre ++ l).getD k 0 = pre.getD k 0 := by
      simp [List.getD_eq_getElem?_getD, List.getElem?_append_left (show k < pre.length by omega)]
    rw [this]
theorem getD_pre (pre l : List Int) (x : Int) : (pre ++ x :: l).getD pre.length 0 = x := by
  simp [List.getD_eq_getElem?_getD]
theorem gnumFrom_put (rest : List Int) : ∀ (f u : Nat) (pre : List Int) (G : Nat), u < 128 ^ f → (0 < f ∨ 0 < u) → (0 < u ∨ pre.length = 0) → pre.length + f ≤ 9 → f ≤ G → valN pre pre.length + (u : Int) * 128 ^ pre.length ≤ 4611686018427387904 →
    gnumFrom (pre ++ (putN f u ++ rest)) G pre.length = some (valN pre pre.length + (u : Int) * 128 ^ pre.length, pre.length + (putN f u).length)
  | 0, u, pre, G, hu, hf, h0, hl, hG, hv => by
    exfalso
    rw [Nat.pow_zero] at hu
    omega
  | f + 1, u, pre, G, hu, hf, h0, hl, hG, hv => by
    obtain ⟨G', rfl⟩ : ∃ G', G = G' + 1 := ⟨G - 1, by omega⟩
    unfold putN
    split
    · rename_i h127
      have hx : (pre ++ (((u % 128 + 128 : Nat) : Int) :: putN f (u / 128) ++ rest)).getD pre.length 0 = ((u % 128 + 128 : Nat) : Int) := getD_pre _ _ _
      unfold gnumFrom
      rw [hx, if_pos (by simp; omega), if_neg (by omega)]
      have e : pre ++ (((u % 128 + 128 : Nat) : Int) :: putN f (u / 128) ++ rest) = (pre ++ [((u % 128 + 128 : Nat) : Int)]) ++ (putN f (u / 128) ++ rest) := by simp
      have hl1 : (pre ++ [((u % 128 + 128 : Nat) : Int)]).length = pre.length + 1 := by simp
      have hval : valN (pre ++ [((u % 128 + 128 : Nat) : Int)]) (pre.length + 1) + ((u / 128 : Nat) : Int) * 128 ^ (pre.length + 1) = valN pre pre.length + (u : Int) * 128 ^ pre.length := by
        have h1 : valN (pre ++ [((u % 128 + 128 : Nat) : Int)]) (pre.length + 1) = valN pre pre.length + ((u % 128 : Nat) : Int) * 128 ^ pre.length := by
          show valN (pre ++ [((u % 128 + 128 : Nat) : Int)]) pre.length + _ = _
          rw [valN_app _ _ _ (Nat.le_refl _), getD_pre]
          have : (((u % 128 + 128 : Nat) : Int)) % 128 = ((u % 128 : Nat) : Int) := by omega
          rw [this]
        rw [h1, Int.pow_succ]
        have h2 : (u : Int) = ((u % 128 : Nat) : Int) + ((u / 128 : Nat) : Int) * 128 := by omega
        conv => rhs; rw [h2]
        rw [Int.add_mul, Int.add_assoc, Int.mul_assoc, Int.mul_comm 128 (128 ^ pre.length)]
      have ih := gnumFrom_put rest f (u / 128) (pre ++ [((u % 128 + 128 : Nat) : Int)]) G' (by rw [Nat.pow_succ] at hu; omega) (.inr (by omega)) (.inl (by omega)) (by omega) (by omega) (by rw [hl1, hval]; exact hv)
      rw [hl1] at ih
      rw [e, ih, hval]
      simp
      omega
    · rename_i h127
      have hx : (pre ++ ([(u : Int)] ++ rest)).getD pre.length 0 = (u : Int) := getD_pre _ _ _
      have hval : valN (pre ++ ([(u : Int)] ++ rest)) (pre.length + 1) = valN pre pre.length + (u : Int) * 128 ^ pre.length := by
        show valN (pre ++ ([(u : Int)] ++ rest)) pre.length + _ = _
        rw [valN_app _ _ _ (Nat.le_refl _), hx]
        have : (u : Int) % 128 = u := by omega
        rw [this]
      unfold gnumFrom
      rw [hx, if_pos (by simp; omega), if_pos (by omega), hval, if_pos ⟨hv, by omega⟩]
      rfl
theorem numOf_top (n : Int) : numOf n ≤ 4611686018427387904 := by
  unfold numOf mn mx
  split <;> split <;> omega
theorem gnum_enc (n : Int) (rest : List Int) : gnum (encN n ++ rest) = some ((numOf n : Int), (encN n).length) := by
  have h := numOf_top n
  have h9 : numOf n < 128 ^ 9 := Nat.lt_of_le_of_lt h (by decide)
  have := gnumFrom_put rest 9 (numOf n) [] 10 h9 (.inl (by decide)) (.inr rfl) (Nat.le_refl 9) (by decide) (by show (0 : Int) + (numOf n : Int) * 1 ≤ _; omega)
  have e : valN [] 0 + (numOf n : Int) * 128 ^ 0 = numOf n := by show (0 : Int) + (numOf n : Int) * 1 = _; omega
  rw [show ([] : List Int).length = 0 from rfl, e, Nat.zero_add] at this
  exact this
theorem numOf_key {n : Int} (h : 0 ≤ n ∧ n ≤ 1099511627776) : (numOf n : Int) = n := by
  unfold numOf mn mx
  split <;> split <;> omega
def okI (x : PI) : Prop := (0 ≤ x.1 ∧ x.1 ≤ 1099511627776) ∧ x.2.length ≤ 900000 ∧ ByteL x.2
theorem entry_rec {x : PI} (h : okI x) : entryP (encN x.1 ++ x.2) = some (x.1, (encN x.1).length) := by
  have h1 := gnum_enc x.1 x.2
  rw [numOf_key h.1] at h1
  have h2 := h.2.1
  exact entry_some h1 (by rw [List.length_append]; omega) h.1.2
theorem split_item {x : PI} (h : okI x) (b : List Int) : Pure.splitOf (recI x ++ b) = (encN x.1 ++ x.2, (((encN x.1 ++ x.2).length + 8 : Nat) : Int), true) :=
  Pure.split_rec _ _ (byteL_byte (byteL_app (encN_byte _) h.2.2)) (by have h1 := encN_len x.1; have h2 := h.2.1; rw [List.length_append]; omega)
theorem begin_item {x : PI} (h : okI x) {i : Nat} (hi : i < (recI x).length) : (Pure.splitOf ((recI x).take i)).2.2 = false :=
  Pure.begin_none _ (by have h1 := encN_len x.1; have h2 := h.2.1; rw [List.length_append]; omega) i (by rw [recI_len] at hi; rw [List.length_append]; omega)
def recsJ (is : List PI) : List Int := is.flatMap recI
theorem recs_nil : recsJ [] = [] := rfl
theorem recs_cons (x : PI) (r : List PI) : recsJ (x :: r) = recI x ++ recsJ r := List.flatMap_cons
theorem recs_app (a b : List PI) : recsJ (a ++ b) = recsJ a ++ recsJ b := List.flatMap_append
theorem recs_snoc (a : List PI) (x : PI) : recsJ (a ++ [x]) = recsJ a ++ recI x := by rw [recs_app, recs_cons, recs_nil, List.append_nil]
theorem recs_take (is : List PI) (q : Nat) : (recsJ is).take (recsJ (is.take q)).length = recsJ (is.take q) := by
  conv => lhs; arg 2; rw [← List.take_append_drop q is, recs_app]
  exact List.take_left
theorem recs_take_le (is : List PI) (q : Nat) : (recsJ (is.take q)).length ≤ (recsJ is).length := by
  have := congrArg List.length (recs_take is q)
  rw [List.length_take] at this
  omega
theorem split_nil : (Pure.splitOf []).2.2 = false := by decide +kernel
theorem scan_recs : ∀ (rest pre : List PI) (m f : Nat) (sz : Int), (∀ x ∈ rest, okI x) → onceJ (pre ++ rest) → m < f →
    ∃ q, q ≤ rest.length ∧ scanS f ((recsJ rest).take m) pre sz = (pre ++ rest.take q, sz + ((recsJ (rest.take q)).length : Int)) ∧ (recsJ (rest.take q)).length ≤ m ∧ (q < rest.length → m < (recsJ (rest.take (q + 1))).length)
  | [], pre, m, f, sz, ho, hn, hf => by
    refine ⟨0, Nat.le_refl _, ?_, Nat.zero_le _, fun h => by simp at h⟩
    rw [recs_nil, List.take_nil, scan_stop1 split_nil]
    simp [recs_nil]
  | x :: r, pre, m, f, sz, ho, hn, hf => by
    have hx := ho x (by simp)
    by_cases hm : m < (recI x).length
    · refine ⟨0, Nat.zero_le _, ?_, Nat.zero_le _, fun _ => ?_⟩
      · rw [recs_cons, List.take_append_of_le_length (by omega), scan_stop1 (begin_item hx hm)]
        simp [recs_nil]
      · simpa [recs_cons, recs_nil] using hm
    · have e : (recsJ (x :: r)).take m = recI x ++ (recsJ r).take (m - (recI x).length) := by
        rw [recs_cons, List.take_append, List.take_of_length_le (by omega)]
      have hs := split_item hx ((recsJ r).take (m - (recI x).length))
      have hl : (encN x.1 ++ x.2).length + 8 = (recI x).length := by rw [recI_len, List.length_append]
      have hno : hasJ x.1 pre = false := hasJ_false.2 fun y hy e2 => by
        obtain ⟨_, _, h3⟩ := List.pairwise_append.1 hn
        exact h3 y hy x (by simp) e2
      have h8 := recI_len x
      obtain ⟨q, h1, h2, h3, h4⟩ := scan_recs r (pre ++ [x]) (m - (recI x).length) (f - 1) (sz + ((recI x).length : Int)) (fun y hy => ho y (List.mem_cons_of_mem _ hy)) (by rw [List.append_assoc]; exact hn) (by omega)
      refine ⟨q + 1, by simpa using h1, ?_, ?_, fun h => ?_⟩
      · rw [e, scan_go (n := x.1) (k := (encN x.1).length) (by omega) (by rw [hs]) (by rw [hs]; exact entry_rec hx) hno, hs]
        have e1 : (recI x ++ (recsJ r).take (m - (recI x).length)).drop (((encN x.1 ++ x.2).length + 8 : Nat) : Int).toNat = (recsJ r).take (m - (recI x).length) := by
          rw [Int.toNat_natCast, hl]
          exact List.drop_left
        have e2 : (encN x.1 ++ x.2).drop (encN x.1).length = x.2 := List.drop_left
        show scanS (f - 1) (List.drop (((encN x.1 ++ x.2).length + 8 : Nat) : Int).toNat _) (pre ++ [(x.1, (encN x.1 ++ x.2).drop (encN x.1).length)]) (sz + (((encN x.1 ++ x.2).length + 8 : Nat) : Int)) = _
        rw [e1, e2, hl]
        show scanS (f - 1) _ (pre ++ [x]) _ = _
        rw [h2, List.append_assoc, List.take_succ_cons, recs_cons, List.length_append]
        refine Prod.ext rfl ?_
        show sz + ((recI x).length : Int) + ((recsJ (r.take q)).length : Int) = sz + (((recI x).length + (recsJ (r.take q)).length : Nat) : Int)
        omega
      · rw [List.take_succ_cons, recs_cons, List.length_append]; omega
      · rw [List.take_succ_cons, recs_cons, List.length_append]
        have := h4 (by simpa using h)
        omega
theorem scan_cut {is : List PI} (ho : ∀ x ∈ is, okI x) (hn : onceJ is) (m : Nat) (hm : m ≤ (recsJ is).length) :
    ∃ q, q ≤ is.length ∧ scanJ ((recsJ is).take m) = (is.take q, ((recsJ (is.take q)).length : Int)) ∧ (recsJ (is.take q)).length ≤ m ∧ (q < is.length → m < (recsJ (is.take (q + 1))).length) := by
  obtain ⟨q, h1, h2, h3, h4⟩ := scan_recs is [] m (((recsJ is).take m).length + 1) 0 ho hn (by rw [List.length_take]; omega)
  refine ⟨q, h1, ?_, h3, h4⟩
  unfold scanJ
  rw [h2, List.nil_append, Int.zero_add]
def jdk (nm : ByteArray) (all : List Int) (sf : Int) (ext : List PF) (mst : Int) : PD := ⟨⟨nm, all, sf⟩ :: ext, mst, (all.length : Int) + (totF ext : Int), 0, false⟩
section
variable {nm : ByteArray} {all y : List Int} {sf mst key sz : Int} {ext : List PF} {is : List PI} {b : List Int}
theorem jd_get : getF nm (jdk nm all sf ext mst).fs = some ⟨nm, all, sf⟩ := by unfold getF jdk; simp
theorem jd_upd {h : PF → PF} (he : ∀ g ∈ ext, g.nm ≠ nm) : updF nm h (⟨nm, all, sf⟩ :: ext) = h ⟨nm, all, sf⟩ :: ext := upd_split (pre := []) rfl he
theorem jd_append (he : ∀ g ∈ ext, g.nm ≠ nm) (hr : (all.length : Int) + (totF ext : Int) + y.length ≤ mst) : appendD nm y (jdk nm all sf ext mst) = (jdk nm (all ++ y) sf ext mst, 0) := by
  rw [append_go rfl jd_get (by show ¬ (mst - ((all.length : Int) + (totF ext : Int)) < _); omega), step_on (by show (0 : Int) ≠ 1; decide) (Int.le_refl _)]
  show (PD.mk (updF nm _ (⟨nm, all, sf⟩ :: ext)) mst ((all.length : Int) + (totF ext : Int) + (y.length : Int)) (decF 0) false, (0 : Int)) = _
  rw [jd_upd he]
  unfold jdk
  rw [List.length_append]
  refine Prod.ext ?_ rfl
  show PD.mk _ mst _ 0 false = PD.mk _ mst _ 0 false
  congr 1
  omega
theorem jd_sync (he : ∀ g ∈ ext, g.nm ≠ nm) : syncD nm (jdk nm all sf ext mst) = (jdk nm all all.length ext mst, 0) := by
  rw [sync_go rfl jd_get, step_on (by show (0 : Int) ≠ 1; decide) (Int.le_refl _)]
  show (PD.mk (updF nm _ (⟨nm, all, sf⟩ :: ext)) mst _ (decF 0) false, (0 : Int)) = _
  rw [jd_upd he]
  rfl
theorem jd_put (he : ∀ g ∈ ext, g.nm ≠ nm) (hk : 0 ≤ key ∧ key ≤ 1099511627776) (hb : b.length ≤ 900000) (hn : hasJ key is = false) (hr : ((recsJ is).length : Int) + (totF ext : Int) + (recI (key, b)).length ≤ mst) :
    putJ nm key b is sz (jdk nm (recsJ is) sf ext mst) = ((jdk nm (recsJ (is ++ [(key, b)])) sf ext mst, 0), (is ++ [(key, b)], sz + ((recI (key, b)).length : Int))) := by
  have e := jd_append (nm := nm) (all := recsJ is) (y := recI (key, b)) (sf := sf) he hr
  rw [put_ok hk (by omega) hn (by rw [e]), e, recs_snoc]
theorem jd_crash (hs : 0 ≤ sf ∧ sf ≤ all.length) (k : Int) : ∃ m : Nat, (m : Int) = sf + mn (mx k 0) ((all.length : Int) - sf) ∧ m ≤ all.length ∧ sf ≤ (m : Int) ∧ crashD [k] (jdk nm all sf [] mst) = jdk nm (all.take m) m [] mst := by
  by_cases hl : (all.length : Int) - sf = 0
  · refine ⟨all.length, ?_, Nat.le_refl _, hs.2, ?_⟩
    · have : mn (mx k 0) ((all.length : Int) - sf) = 0 := by rw [hl]; unfold mn mx; (repeat' split) <;> omega
      rw [this]; omega
    · have e : sf = all.length := by omega
      subst e
      unfold crashD jdk
      rw [crash_keep (f := ⟨nm, all, all.length⟩) (by show (all.length : Int) - all.length = 0; omega), crash_nil, List.take_length]
      show PD.mk _ mst ((all.length : Int) + (totF [] : Int) - 0) 0 false = _
      rw [Int.sub_zero]
  · have hk := keepN_in [k] (loose := (all.length : Int) - sf) (by omega)
    have hk2 : keepN [k] ((all.length : Int) - sf) = mn (mx k 0) ((all.length : Int) - sf) := rfl
    refine ⟨(sf + keepN [k] ((all.length : Int) - sf)).toNat, by rw [← hk2]; omega, by omega, by omega, ?_⟩
    unfold crashD jdk
    rw [crash_cut (f := ⟨nm, all, sf⟩) hl, List.drop_one, List.tail_cons, crash_nil]
    show PD.mk [⟨nm, all.take (sf + keepN [k] ((all.length : Int) - sf)).toNat, sf + keepN [k] ((all.length : Int) - sf)⟩] mst ((all.length : Int) + (totF [] : Int) - ((all.length : Int) - sf - keepN [k] ((all.length : Int) - sf) + 0)) 0 false = PD.mk [⟨nm, all.take (sf + keepN [k] ((all.length : Int) - sf)).toNat, (((sf + keepN [k] ((all.length : Int) - sf)).toNat : Nat) : Int)⟩] mst (((all.take (sf + keepN [k] ((all.length : Int) - sf)).toNat).length : Int) + (totF [] : Int)) 0 false
    have e0 : (totF [] : Int) = 0 := rfl
    rw [show (((sf + keepN [k] ((all.length : Int) - sf)).toNat : Nat) : Int) = sf + keepN [k] ((all.length : Int) - sf) by omega]
    congr 1
    rw [List.length_take, e0]
    omega
theorem jd_open (he : ∀ g ∈ ext, g.nm ≠ nm) (hs : 0 ≤ sf ∧ sf ≤ all.length) {s : Nat} (hsc : scanJ all = (is, (s : Int))) (hsl : s ≤ all.length) :
    openJ nm (jdk nm all sf ext mst) = ((jdk nm (all.take s) s ext mst, 0), (is, (s : Int))) := by
  have hr : readD nm (jdk nm all sf ext mst) = (all, 0) := read_some (f := ⟨nm, all, sf⟩) rfl jd_get
  have hp : preJ nm (jdk nm all sf ext mst) = (jdk nm all sf ext mst, 0) := by
    unfold preJ
    rw [hr]
    exact if_neg (by show ¬ ((0 : Int) = 4); decide)
  by_cases hlt : (s : Int) < (all.length : Int)
  · have hc : cutD nm (s : Int) (jdk nm all sf ext mst) = (jdk nm (all.take s) (mn sf s) ext mst, 0) := by
      rw [cut_go (f := ⟨nm, all, sf⟩) rfl jd_get (by show ¬ ((s : Int) < 0 ∨ (all.length : Int) < (s : Int)); omega), step_on (by show (0 : Int) ≠ 1; decide) (Int.le_refl _)]
      show (PD.mk (updF nm _ (⟨nm, all, sf⟩ :: ext)) mst ((all.length : Int) + (totF ext : Int) - ((all.length : Int) - (s : Int))) (decF 0) false, (0 : Int)) = _
      rw [jd_upd he]
      refine Prod.ext ?_ rfl
      show PD.mk (⟨nm, all.take (s : Int).toNat, mn sf s⟩ :: ext) mst _ 0 false = PD.mk (⟨nm, all.take s, mn sf s⟩ :: ext) mst (((all.take s).length : Int) + (totF ext : Int)) 0 false
      rw [Int.toNat_natCast, List.length_take]
      congr 1
      omega
    rw [open3 (is := is) (sz := (s : Int)) hp rfl (by rw [hr]; exact hsc) (by rw [hr]; exact hlt) (by rw [hc]), hc, jd_sync he, List.length_take, Nat.min_eq_left hsl]
  · have e : s = all.length := by omega
    subst e
    rw [open4 (is := is) (sz := ((all.length : Nat) : Int)) hp rfl (by rw [hr]; exact hsc) (by rw [hr]; exact hlt), jd_sync he, List.take_length]
theorem jd_open0 (hb : namedB nm = true) (he : ∀ g ∈ ext, g.nm ≠ nm) (hi : insF ⟨nm, [], 0⟩ ext = ⟨nm, [], 0⟩ :: ext) :
    openJ nm ⟨ext, mst, (totF ext : Int), 0, false⟩ = ((jdk nm [] 0 ext mst, 0), ([], 0)) := by
  have hg : getF nm ext = none := List.find?_eq_none.2 fun g hg => by simpa using he g hg
  have hr : readD nm ⟨ext, mst, (totF ext : Int), 0, false⟩ = ([], 4) := read_none rfl hg
  have hp : preJ nm ⟨ext, mst, (totF ext : Int), 0, false⟩ = (jdk nm [] 0 ext mst, 0) := by
    unfold preJ
    rw [hr]
    rw [if_pos (by rfl), create_go rfl hb hg, step_on (by show (0 : Int) ≠ 1; decide) (Int.le_refl _)]
    show (PD.mk (insF ⟨nm, [], 0⟩ (delF nm ext)) mst (totF ext : Int) (decF 0) false, (0 : Int)) = _
    rw [del_none he, hi]
    refine Prod.ext ?_ rfl
    show PD.mk _ mst _ 0 false = PD.mk _ mst _ 0 false
    congr 1
    show (totF ext : Int) = ((0 : Nat) : Int) + _
    omega
  have hsc : scanJ ([] : List Int) = ([], 0) := by
    unfold scanJ
    exact scan_stop1 split_nil
  rw [open4 (is := []) (sz := 0) hp rfl (by rw [hr]; exact hsc) (by rw [hr]; decide), jd_sync he]
  rfl
end
theorem used_le {nm : ByteArray} {all : List Int} {sf mst : Int} (h : all.length ≤ 1000000) : (jdk nm all sf [] mst).used ≤ 1000000 := by
  show (all.length : Int) + ((totF [] : Nat) : Int) ≤ 1000000
  have : ((totF [] : Nat) : Int) = 0 := rfl
  omega
theorem jd_byte {nm : ByteArray} {all : List Int} {sf mst : Int} {ext : List PF} (h : ByteL all) : ByteL (readD nm (jdk nm all sf ext mst)).1 := by
  rw [read_some (f := ⟨nm, all, sf⟩) rfl jd_get]
  exact h
theorem recs_byte {is : List PI} (h : ∀ x ∈ is, okI x) : ByteL (recsJ is) := fun z hz => by
  obtain ⟨x, hx, hz⟩ := List.mem_flatMap.1 hz
  have := Pure.recOf_bytes _ (byteL_byte (byteL_app (encN_byte x.1) (h x hx).2.2)) z hz
  unfold Pure.Byte at this
  omega
theorem take_byte {l : List Int} (h : ByteL l) (m : Nat) : ByteL (l.take m) := fun x hx => h x (List.mem_of_mem_take hx)
section
variable {nm : ByteArray} {sf mst : Int} {is : List PI} {ext : List PF} {ds : List (List Int)} {m n q safe : Nat} {i : Int} {x y : PI}
theorem newD_lit (h : 0 ≤ mst) : newD mst = ⟨[], mst, ((totF [] : Nat) : Int), 0, false⟩ := by
  unfold newD mx
  split
  · have : mst = 0 := by omega
    rw [this]; rfl
  · rfl
theorem open_new (h : 0 ≤ mst) (hb : namedB nm = true) : openJ nm (newD mst) = ((jdk nm (recsJ []) 0 [] mst, 0), ([], 0)) := by
  rw [newD_lit h]
  exact jd_open0 hb (fun g hg => by simp at hg) rfl
theorem jd_reopen (he : ∀ g ∈ ext, g.nm ≠ nm) (ho : ∀ x ∈ is, okI x) (hn : onceJ is) (hm : m ≤ (recsJ is).length) :
    ∃ q, q ≤ is.length ∧ openJ nm (jdk nm ((recsJ is).take m) m ext mst) = ((jdk nm (recsJ (is.take q)) (recsJ (is.take q)).length ext mst, 0), (is.take q, ((recsJ (is.take q)).length : Int))) ∧ (recsJ (is.take q)).length ≤ m ∧ (q < is.length → m < (recsJ (is.take (q + 1))).length) := by
  obtain ⟨q, h1, h2, h3, h4⟩ := scan_cut ho hn m hm
  refine ⟨q, h1, ?_, h3, h4⟩
  have hl : ((recsJ is).take m).length = m := by rw [List.length_take]; omega
  rw [jd_open he ⟨by omega, by omega⟩ h2 (by omega), List.take_take, Nat.min_eq_left h3, recs_take]
theorem recs_one : (recsJ [x]).length = (recI x).length := by rw [recs_cons, recs_nil, List.append_nil]
theorem recs_two : (recsJ [x, y]).length = (recI x).length + (recI y).length := by rw [recs_cons, List.length_append, recs_one]
theorem two_cut (h1 : q ≤ [x, y].length) (h3 : (recsJ ([x, y].take q)).length ≤ m) (h4 : q < [x, y].length → m < (recsJ ([x, y].take (q + 1))).length) (hm : (recI x).length ≤ m) (hm2 : m ≤ (recsJ [x, y]).length) :
    (q = 1 ∧ m < (recI x).length + (recI y).length) ∨ (q = 2 ∧ m = (recI x).length + (recI y).length) := by
  rw [recs_two] at hm2
  match q, h1 with
  | 0, _ =>
    have := h4 (by show 0 < 2; decide)
    rw [show ([x, y] : List PI).take (0 + 1) = [x] from rfl, recs_one] at this
    omega
  | 1, _ =>
    have := h4 (by show 1 < 2; decide)
    rw [show ([x, y] : List PI).take (1 + 1) = [x, y] from rfl, recs_two] at this
    exact .inl ⟨rfl, this⟩
  | 2, _ =>
    rw [show ([x, y] : List PI).take 2 = [x, y] from rfl, recs_two] at h3
    exact .inr ⟨rfl, by omega⟩
  | q + 3, h => exact absurd h (by simp)
theorem enc_small {k : Int} (h : 0 ≤ k ∧ k ≤ 127) : (encN k).length = 1 := by
  have : numOf k ≤ 127 := by
    unfold numOf mn mx
    split <;> split <;> omega
  unfold encN putN
  rw [if_neg (by omega)]
  rfl
end
section
variable {rm sf key : Int} {y b all : List Int} {is : List PI} {nm : ByteArray} {ext : List PF} {mst : Int}
structure JL (is : List PI) : Prop where
  ok : ∀ x ∈ is, okI x
  once : onceJ is
  lt : ∀ x ∈ is, x.1 < (is.length : Int)
end
end
section
section
variable {α : Type} {d : Kd α} {e base n c g : Nat} {S P : Nat → Prop} {A : Option Addr} {xs ys : List α} {v : Value} {w0 w : World} {L : List Chunk}
def Chunk.prow (w0 : World) (P : Nat → Prop) (d : Kd α) (e base : Nat) (S : Nat → Prop) (v : Value) (xs : List α) : Chunk :=
  ⟨S, fun w => (∀ k, v.ownBlock = some k → S k) ∧ ∀ W', (∀ k, P k → W'.heap[k]? = w0.heap[k]?) → (∀ k, S k → W'.heap[k]? = w.heap[k]?) → Kd.N d e W' base (fun k => P k ∨ S k) v xs, fun h hm => ⟨h.1, fun W' h1 h2 => h.2 W' h1 (fun k hk => (h2 k hk).trans (hm k hk))⟩⟩
theorem prow_N (HO : Own w0 w L) (hP : ∀ k, P k → k < w0.heap.size) (h : (Chunk.prow w0 P d e base S v xs).P w) : Kd.N d e w base (fun k => P k ∨ S k) v xs :=
  h.2 w (fun k hk => HO.below.block k (hP k hk)) (fun _ _ => rfl)
theorem prow_of (h0 : ∀ k, v.ownBlock = some k → S k) (h : Kd.N d e w base (fun k => P k ∨ S k) v xs) (hP : ∀ k, P k → w.heap[k]? = w0.heap[k]?) : (Chunk.prow w0 P d e base S v xs).P w := ⟨h0, fun W' h1 h2 =>
  Kd.N_step h fun k hk _ => hk.elim (fun hp => (h1 k hp).trans (hP k hp).symm) (fun hs => h2 k hs)⟩
theorem prow_slice (HO : Own w0 w L) (hP : ∀ k, P k → k < w0.heap.size) (h : (Chunk.prow w0 P d e base S (.slice A n c) xs).P w) : n = xs.length ∧ n ≤ c := ⟨(Kd.N_reads' (prow_N HO hP h)).1, (Kd.N_reads' (prow_N HO hP h)).2.1⟩
theorem N_lit0 {base g : Nat} {ok : Nat → Prop} (hb : w.heap[g]? = some (.cells #[] e (0, 0))) (hg : base ≤ g) (hok : ok g) : Kd.N d e w base ok (.slice (some ⟨g, 0, none⟩) 0 0) ([] : List α) := by
  refine Kd.R_N ⟨fun k hk => ?_, [], ⟨by simp, .inr ⟨g, 0, #[], rfl, hg, hb, Nat.le_refl _, by simp [maxLen], by simp, by simp⟩⟩, Reps.none _ _⟩
  obtain rfl : g = k := by simpa [Value.ownBlock] using hk
  exact hok
end
section
variable {D : List Deferred} {Pg : Program} {ops : Array Oper} {Q : Exit → Act → World → Prop} {rest : List Oper} {o : Oper} {N dd : Nat} {a : Act} {F : List (Nat × Value)} {w w0 : World} {L : List Chunk} {α : Type} {P : Nat → Prop}
theorem gw_plit0 (d : Kd α) (P : Nat → Prop) {e : Nat} (HF : FrD D N a F) (HO : Own w0 w L) (hw : Region.wanted o (yielded ops a.tmps) = true) (hd : o.dst = some dd) (hN : dd < N)
    (hrun : Runs Pg o a w (.slice (some ⟨w.heap.size, 0, none⟩) 0 0) (w.alloc (.cells #[] e (0, 0)))) (hP : ∀ k, P k → k < w0.heap.size)
    (k : ∀ A S a' w1, FrD D N a' ((dd, .slice A ([] : List α).length 0) :: F) → Own w0 w1 (Chunk.prow w0 P d e w0.heap.size S (.slice A ([] : List α).length 0) [] :: L) → wpList Pg ops Q rest a' w1) : wpList Pg ops Q (o :: rest) a w :=
  gw_ev HF hw hd hN hrun fun a' HF' => k (some ⟨w.heap.size, 0, none⟩) (fun k => k = w.heap.size) a' _ HF' (HO.fresh (cs := [_]) (Out.one (Out.of_below (below_alloc (Below.refl _ _) _) _) (c := Chunk.prow w0 P d e w0.heap.size (fun k => k = w.heap.size) (.slice (some ⟨w.heap.size, 0, none⟩) 0 0) [])
    (prow_of (fun k hk => by
      have : w.heap.size = k := by simpa [Value.ownBlock] using hk
      exact this.symm) (N_lit0 (heap_alloc_new w _) HO.below.size (.inr rfl)) fun k hk => ((HO.alloc _).below.block k (hP k hk))) (fun k hk => by
      obtain rfl : k = w.heap.size := hk
      exact ⟨.inr (Nat.le_refl _), by simp⟩)))
theorem gw_pappend1 (d : Kd α) {e base : Nat} {S : Nat → Prop} {A : Option Addr} {c g : Nat} {xs : List α} {p : α} {cs : List Value} {s x : Operand} {t : TypeId} {z : Value} {bytes : Nat} (hP : ∀ k, P k → k < w0.heap.size) (HF : FrD D N a F)
    (HO : Own w0 w (Chunk.prow w0 P d e base S (.slice A xs.length c) xs :: Chunk.blk g (.cells cs.toArray e (0, 0)) :: L)) (hw : Region.wanted o (yielded ops a.tmps) = true) (hd : o.dst = some dd) (hN : dd < N)
    (ho : o.op = .call { callee := .builtin .append, args := #[s, x], argTypes := #[t, t] })
    (ht : Pg.underlying t = some (.slice e)) (hinfo : (Pg.info? e).map (fun i => (i.zero, i.size, i.bytes)) = some (some z, d.sz, bytes)) (hz : z.cells.size = d.sz) (hs0 : 0 < d.sz) (hb0 : 0 < bytes)
    (hs : a.eval s = .slice A xs.length c) (hx : a.eval x = .slice (some ⟨g, 0, none⟩) 1 1) (hM : Kd.FK d w0 P p cs) (hbase : base ≤ w.heap.size) (hl : (xs.length + 1) * bytes ≤ 140737488355328)
    (k : ∀ A' c' S' a' w1, FrD D N a' ((dd, .slice A' (xs ++ [p]).length c') :: F) → Own w0 w1 (Chunk.prow w0 P d e base S' (.slice A' (xs ++ [p]).length c') (xs ++ [p]) :: L) → wpList Pg ops Q rest a' w1) : wpList Pg ops Q (o :: rest) a w := by
  have hC := HO.get 0 rfl
  have hR : Kd.N d e w base (fun k => P k ∨ S k) (.slice A xs.length c) xs := prow_N HO hP hC
  have hB : w.heap[g]? = some (.cells cs.toArray e (0, 0)) := HO.get 1 rfl
  have hPw : ∀ k, P k → w.heap[k]? = w0.heap[k]? := fun k hk => HO.below.block k (hP k hk)
  have hgw : w0.heap.size ≤ g := (HO.lt 1 rfl (k := g) rfl).1
  have hsS : ∀ k, S k → w0.heap.size ≤ k := fun k hk => (HO.lt 0 rfl hk).1
  have hap : ∀ k, S k → k ≠ g := fun k hk e => HO.apart_at 0 1 (by decide) rfl rfl k hk (by rw [e]; exact rfl)
  have hF : Kd.F d w (fun k => P k ∨ k = g) (some ⟨g, 0, none⟩) 1 [p] := fun W' hW => by
    have hK : d.K W' p cs := hM W' fun k hk hlt => (hW k (.inl hk) (Nat.lt_of_lt_of_le hlt HO.below.size)).trans (hPw k hk)
    have hB' : W'.heap[g]? = some (.cells cs.toArray e (0, 0)) := (hW g (.inr rfl) (blk_lt hB)).trans hB
    have hr : Reps (d.K W') d.sz [p] (cs ++ []) := reps_more hK (d.K_len hK) reps_none
    rw [List.append_nil] at hr
    exact Cg_lit hB' hr (by simp [maxLen])
  refine gw_unguard hw ?_
  refine Kd.N_append_rows d (w0 := w) base rfl s x t e z bytes ho ht hinfo hz hs0 hb0 _ xs [p] _ 1 1 (fun k => (P k ∨ S k) ∨ k = g ∨ w.heap.size ≤ k) (fun k => P k ∨ k = g) hs hx (Kd.N_mono hR (fun k hk => .inl hk)) hF (fun k hk => ⟨?_, fun e1 => ?_⟩) (fun k hk => .inr (.inr hk)) (Below.refl _ _) hbase hl ?_
  · rcases hk with hk | hk
    · exact .inl (.inl hk)
    · exact .inr (.inl hk)
  · have h1 := hC.1 k e1.symm
    rcases hk with hk | hk
    · exact Nat.lt_irrefl _ (Nat.lt_of_lt_of_le (hP k hk) (hsS k h1))
    · exact hap k h1 hk
  intro v1 w1 h1 _ hgr hat
  obtain ⟨A', c', rfl⟩ := Kd.N_slice h1
  show wpList Pg ops Q rest (a.put o.dst _) w1
  rw [hd]
  have HB : Own w0 w (Chunk.all [Chunk.prow w0 P d e base S (.slice A xs.length c) xs, Chunk.blk g (.cells cs.toArray e (0, 0))] :: L) := Own.bundle (A := [_, _]) HO
  have hall : ∀ k, (Chunk.all [Chunk.prow w0 P d e base S (.slice A xs.length c) xs, Chunk.blk g (.cells cs.toArray e (0, 0))]).S k ↔ S k ∨ k = g := fun k => by
    constructor
    · rintro ⟨c, hc, hk⟩
      simp only [List.mem_cons, List.mem_nil_iff, or_false] at hc
      rcases hc with rfl | rfl
      · exact .inl hk
      · exact .inr hk
    · rintro (hk | hk)
      · exact ⟨_, List.mem_cons_self .., hk⟩
      · exact ⟨Chunk.blk g (.cells cs.toArray e (0, 0)), by simp, hk⟩
  have hP1 : ∀ k, P k → w1.heap[k]? = w0.heap[k]? := fun k hk => (hgr.block k (Nat.lt_of_lt_of_le (hP k hk) HO.below.size) (fun e1 => Nat.lt_irrefl _ (Nat.lt_of_lt_of_le (hP k hk) (hsS k (hC.1 k e1.symm))))).trans (hPw k hk)
  have hS' : ∀ k, (Value.slice A' (xs ++ [p]).length c').ownBlock = some k → (S k ∨ k = g) ∨ w.heap.size ≤ k ∧ k < w1.heap.size := fun k hk => by
    have hlt := Kd.N_lt h1 k hk
    rcases hat with h | ⟨b, hb, hbw⟩
    · exact .inl (.inl (hC.1 k (by rw [← h]; exact hk)))
    · obtain rfl : b = k := Option.some.inj (hb.symm.trans hk)
      exact .inr ⟨hbw, hlt⟩
  refine k A' c' (fun k => (S k ∨ k = g) ∨ w.heap.size ≤ k ∧ k < w1.heap.size) _ w1 (HF.put hN _) (HB.calls (cs := []) 0 rfl ?_)
  refine Out.one ((Out.refl w _).grown hgr (fun k e => .inl ((hall k).2 (.inl (hC.1 k e))))) (c := Chunk.prow w0 P d e base (fun k => (S k ∨ k = g) ∨ w.heap.size ≤ k ∧ k < w1.heap.size) _ _) (prow_of hS' ?_ hP1) ?_
  · exact Kd.N_mono (Kd.N_bound h1) (fun k hk => by
      rcases hk.1 with (h | h) | h | h
      · exact .inl h
      · exact .inr (.inl (.inl h))
      · exact .inr (.inl (.inr h))
      · exact .inr (.inr ⟨h, hk.2⟩))
  · intro k hk
    rcases hk with hk | hk
    · exact ⟨.inl ((hall k).2 hk), Nat.lt_of_lt_of_le (HB.lt 0 rfl ((hall k).2 hk)).2 hgr.size⟩
    · exact ⟨.inr hk.1, hk.2⟩
end
end
def geR (x f : S38) : Bool := !(Op.bytesLess x.f0.toList f.f0.toList)
def neR (x f : S38) : Bool := !(x.f0.toList == f.f0.toList)
def withL (f : S38) : List S38 → Bool → List S38
  | [], done => if done then [] else [f]
  | x :: r, done => (if (!done && geR x f) = true then [f] else []) ++ ((if neR x f = true then [x] else []) ++ withL f r (done || geR x f))
theorem withL_at {f : S38} {fs : List S38} {i : Nat} (z : S38) (hi : i < fs.length) (done : Bool) :
    withL f (fs.drop i) done = (if (!done && geR (fs.getD i z) f) = true then [f] else []) ++ ((if neR (fs.getD i z) f = true then [fs.getD i z] else []) ++ withL f (fs.drop (i + 1)) (done || geR (fs.getD i z) f)) := by
  have e : fs.getD i z = fs[i] := by simp [List.getD_eq_getElem?_getD, List.getElem?_eq_getElem hi]
  rw [List.drop_eq_getElem_cons hi, e]
  rfl
theorem op_ges {P : Program} {o : Oper} {a : Act} {w : World} {x y : Operand} {t yt : TypeId} {s u : ByteArray} (ho : o.op = .binOp .geq t x y yt) (hx : a.eval x = .string s) (hy : a.eval y = .string u) : Runs P o a w (.bool (!(Op.bytesLess s.toList u.toList))) w := by
  unfold Runs execOp
  simp only [ho, hx, hy]
  simp [go_sem]
namespace GRefW_
theorem with_calls (P : Nat → Prop) (Af : Option Addr) (cf : Nat) (files : List S38) (most fuse : Int) (down : Bool) (f0 : ByteArray) (Ab : Option Addr) (cb : Nat) (fb : List Int) (fsf : Int) (w : World) (hP : ∀ k, P k → k < w.heap.size) (hF : Kd.F k38 w P Af files.length files) (hcf : files.length ≤ cf) (hB : Kd.F (Kd.int .u8) w P Ab fb.length fb) (hcb : fb.length ≤ cb) (hlf : files.length ≤ 1000000) :
    Calls Tryz.prog 10 #[.agg #[.slice Af files.length cf, .int .i64 most, .int .i64 fuse, .bool down], .agg #[.string f0, .slice Ab fb.length cb, .int .i64 fsf]] w fun e w' => ∃ A' c', e = .returned (.agg #[.slice A' (withL (⟨f0, fb, fsf⟩ : S38) files false).length c', .int .i64 most, .int .i64 fuse, .bool down]) ∧ Kd.N k38 38 w' w.heap.size (fun k => P k ∨ w.heap.size ≤ k) (.slice A' (withL (⟨f0, fb, fsf⟩ : S38) files false).length c') (withL (⟨f0, fb, fsf⟩ : S38) files false) ∧ Below w.heap.size w w' := by
 refine gw_start (N := 59) (vs := [.agg #[.slice Af files.length cf, J most, J fuse, .bool down], .agg #[.string f0, .slice Ab fb.length cb, J fsf]]) Tryz.func10 rfl rfl (by simp) fun a HF HO => ?_
 replace HO : Own w w [] := HO
 refine gR fun K1 hK1 => ?_
 refine gw_new HF HO (want_none rfl) rfl (by decide) (op_box rfl (HF.ev rfl)) ?_
 intro g2 _ w4 H5 O6; clear HF HO
 have O7 : Own w w4 [Bk g2 [.slice Af files.length cf, J most, J fuse, .bool down] 34] := O6
 clear O6
 refine gw_new H5 O7 (want_none rfl) rfl (by decide) (op_box rfl (H5.ev rfl)) ?_
 intro g8 _ w10 H11 O12; clear H5 O7
 have O13 : Own w w10 [Bk g8 [.string f0, .slice Ab fb.length cb, J fsf] 38, Bk g2 [.slice Af files.length cf, J most, J fuse, .bool down] 34] := O12
 clear O12
 refine gw_new H11 O13 (want_none rfl) rfl (by decide) (op_alloc gwzer34 rfl) ?_
 intro g14 _ w16 H17 O18; clear H11 O13
 have O19 : Own w w16 [Bk g14 [.slice none 0 0, J 0, J 0, .bool false] 34, Bk g8 [.string f0, .slice Ab fb.length cb, J fsf] 38, Bk g2 [.slice Af files.length cf, J most, J fuse, .bool down] 34] := O18
 clear O18
 refine gE hK1 ?_
 refine gR fun K20 hK20 => ?_
 refine gw_plit0 k38 P (e := 38) H17 O19 (want_none rfl) rfl (by decide) (op_bslice (by kernel_rfl) rfl pt_nil) hP ?_
 intro A21 S22 _ w24 H25 O26; clear H17 O19
 have O27 : Own w w24 [Chunk.prow w P k38 38 w.heap.size S22 (.slice A21 (([] : List S38).length) 0) ([] : List S38), Bk g14 [.slice none 0 0, J 0, J 0, .bool false] 34, Bk g8 [.string f0, .slice Ab fb.length cb, J fsf] 38, Bk g2 [.slice Af files.length cf, J most, J fuse, .bool down] 34] := O26
 clear O26
 refine Va H25 fun _ H29 => ?_
 refine gE hK20 ?_
 refine gR fun K30 hK30 => ?_
 refine Vc H29 fun _ H32 => ?_
 refine gE hK30 ?_
 refine gw_seq fun K33 hK33 => ?_
 refine gR fun K34 hK34 => ?_
 refine Vc H32 fun _ H36 => ?_
 refine gE hK34 ?_
 clear H25 H29 H32
 refine wp_block ?_
 refine gw_loop (fun m_ a_ w_ => ∃ (i : Int) (out : List S38) (Ao : Option Addr) (co : Nat) (So : Nat → Prop) (dn : Bool), Fr 59 a_ [(7, J i), (5, .slice Ao out.length co), (6, .bool dn), (2, .pointer (some ⟨g2, 0, none⟩)), (3, .pointer (some ⟨g8, 0, none⟩)), (4, .pointer (some ⟨g14, 0, none⟩))] ∧ Own w w_ [Chunk.prow w P k38 38 w.heap.size So (.slice Ao out.length co) out, Bk g14 [.slice none 0 0, J 0, J 0, .bool false] 34, Bk g8 [.string f0, .slice Ab fb.length cb, J fsf] 38, Bk g2 [.slice Af files.length cf, J most, J fuse, .bool down] 34] ∧ (0 ≤ i ∧ i ≤ files.length) ∧ (out ++ withL (⟨f0, fb, fsf⟩ : S38) (files.drop i.toNat) dn = withL (⟨f0, fb, fsf⟩ : S38) files false) ∧ ((out.length : Int) ≤ 2 * i) ∧ m_ = (files.length - i.toNat)) ((files.length - (0 : Int).toNat)) ?_ ?_
 ·
  refine ⟨0, [], A21, 0, _, false, (H36.pick (t := 7) rfl (H36.pick (t := 5) rfl (H36.pick (t := 6) rfl (H36.pick (t := 2) rfl (H36.pick (t := 3) rfl (H36.pick (t := 4) rfl H36.nil)))))), O27.sel [0, 1, 2, 3] (by decide), ?_, ?_, ?_, rfl⟩
  ·
   omega
  ·
   simp
  simp
 rintro m38 _ w40 ⟨i, out, Ao, co, So, dn, H41, O42, hi, hW, hlo, hm43⟩
 refine gw_seq fun K44 hK44 => ?_
 refine gR fun K45 hK45 => ?_
 refine Vm H41 fun _ H47 => ?_
 refine Vf H47 (gwfld34_0 _ _) fun _ H49 => ?_
 refine Vl H49 gwagg32 (O42.get 3 rfl) fun _ H51 => ?_
 refine V H51 (op_len Tryz.underlying32 rfl (H51.ev rfl)) fun _ H53 => ?_
 refine V H53 (op_lss rfl (H53.ev rfl) (H53.ev rfl)) fun _ H55 => ?_
 refine gE hK45 ?_
 clear H41 H47 H49 H51 H53
 refine gw_cond H55 rfl (fun hb56 => ?_) (fun hb56 => ?_)
 ·
  have H57 := H55.subst_ (d := 13) (b := true) rfl hb56
  clear H55
  (try simp only [decide_eq_true_eq] at hb56)
  refine gS hK44 ?_
  refine gw_seq fun K58 hK58 => ?_
  refine wp_block ?_
  refine gw_seq fun K59 hK59 => ?_
  refine gw_seq fun K60 hK60 => ?_
  refine gw_drawB O42 (by kernel_rfl) (by kernel_rfl) fun w61 O62 => ?_
  clear O42
  refine Vn H57 (op_move rfl (H57.ev rfl)) fun _ H64 => ?_
  refine Vn H64 (op_not rfl (H64.ev rfl)) fun _ H66 => ?_
  refine Vn H66 (op_move rfl (H66.ev rfl)) fun _ H68 => ?_
  clear H57 H64 H66
  refine gq_evG H68 rfl rfl rfl rfl (on_t _) rfl (by decide) (fun h_ wq hq => have HO := O62.after hq; (op_field (gwfld34_0 _ _) rfl (H68.ev rfl))) ?_
  intro _ H70; clear H68
  refine gq_evG H70 rfl rfl rfl rfl (on_t _) rfl (by decide) (fun h_ wq hq => have HO := O62.after hq; (op_load1 gwagg32 rfl (ev_gv (H70.ev rfl) h_) (blk_at (HO.get 3 rfl) rfl))) ?_
  intro _ H72; clear H70
  refine gq_evG H72 rfl rfl rfl rfl (on_t _) rfl (by decide) (fun h_ wq hq => have HO := O62.after hq; (op_move rfl (H72.ev rfl))) ?_
  intro _ H74; clear H72
  obtain ⟨ad78, cs81, hA79, hl82, hK83, hc80⟩ := F_getT hF z38 i (⟨_, fun _ _ => k38_mk _ z38 (A1 := none) (c1 := 0) (Nat.le_refl _) (Kd.C_nil _ _)⟩)
  obtain ⟨A84, c85, rfl, hl86, hC87⟩ := k38_openF hK83
  clear hl82
  refine gq_evG H74 rfl rfl rfl rfl (on_t _) rfl (by decide) (fun h_ wq hq => have HO := O62.after hq; (op_index Tryz.underlying32 gwsiz38 rfl (ev_gv (H74.ev rfl) h_) (ev_gv (H74.ev rfl) h_) (hA79 ⟨by (try simp only [bxs_, ne_eq, bne_iff_ne, beq_iff_eq, bne_eq_false_iff_eq, beq_eq_false_iff_ne] at h_); omega, by (try simp only [bxs_, ne_eq, bne_iff_ne, beq_iff_eq, bne_eq_false_iff_eq, beq_eq_false_iff_ne] at h_); omega⟩) (⟨by (try simp only [bxs_, ne_eq, bne_iff_ne, beq_iff_eq, bne_eq_false_iff_eq, beq_eq_false_iff_ne] at h_); omega, by (try simp only [bxs_, ne_eq, bne_iff_ne, beq_iff_eq, bne_eq_false_iff_eq, beq_eq_false_iff_ne] at h_); omega⟩))) ?_
  intro _ H89; clear H74
  refine gq_evG H89 rfl rfl rfl rfl (on_t _) rfl (by decide) (fun h_ wq hq => have HO := O62.after hq; (op_field (gwflda38_0 _) rfl (ev_gv (H89.ev rfl) h_))) ?_
  intro _ H91; clear H89
  refine gq_evG H91 rfl rfl rfl rfl (on_t _) rfl (by decide) (fun h_ wq hq => have HO := O62.after hq; (op_load1 gwagg9 rfl (ev_gv (H91.ev rfl) h_) ((cells0 HO (hc80 ⟨by (try simp only [bxs_, ne_eq, bne_iff_ne, beq_iff_eq, bne_eq_false_iff_eq, beq_eq_false_iff_ne] at h_); omega, by (try simp only [bxs_, ne_eq, bne_iff_ne, beq_iff_eq, bne_eq_false_iff_eq, beq_eq_false_iff_ne] at h_); omega⟩) 0 _ rfl)))) ?_
  intro _ H93; clear H91
  refine gq_evG H93 rfl rfl rfl rfl (on_t _) rfl (by decide) (fun h_ wq hq => have HO := O62.after hq; (op_field (gwfld38_0 _ _) rfl (H93.ev rfl))) ?_
  intro _ H95; clear H93
  refine gq_evG H95 rfl rfl rfl rfl (on_t _) rfl (by decide) (fun h_ wq hq => have HO := O62.after hq; (op_load1 gwagg9 rfl (ev_gv (H95.ev rfl) h_) (blk_at (HO.get 2 rfl) rfl))) ?_
  intro _ H97; clear H95
  refine gq_evG H97 rfl rfl rfl rfl (on_t _) rfl (by decide) (fun h_ wq hq => have HO := O62.after hq; (op_ges rfl (ev_gv (H97.ev rfl) h_) (ev_gv (H97.ev rfl) h_))) ?_
  intro _ H99; clear H97
  refine Vn H99 (op_pick_and rfl (H99.ev rfl) (fun hp_ => (ev_gv (H99.ev rfl) hp_)) (ev_c _ _)) fun _ H101 => ?_
  clear H99
  refine wpQuiet_nil ?_
  intro w102 hq
  have O103 := O62.after hq
  clear O62 hq
  refine gw_nx (hK60 _ _ ?_)
  refine gw_cond H101 rfl (fun hb104 => ?_) (fun hb104 => ?_)
  ·
   have H105 := H101.subst_ (d := 28) (b := true) rfl hb104
   clear H101
   (try simp only [Bool.and_eq_true, Bool.and_eq_false_iff, Bool.not_and, Bool.or_eq_true, Bool.or_eq_false_iff, Bool.not_or, Bool.not_not, Bool.not_eq_true', Bool.not_eq_false', Bool.not_eq_true, Bool.not_eq_false] at hb104)
   have h28 := hb104
   refine gR fun K106 hK106 => ?_
   refine Vm H105 fun _ H108 => ?_
   refine V H108 (op_loadn gwagg38 gwsiz38 rfl (H108.ev rfl) (O103.get 2 rfl) rfl rfl) fun _ H110 => ?_
   clear H105 H108
   refine gw_news (O := .cells #[.string f0, .slice Ab fb.length cb, J fsf] 38 (0, 0)) (n := 1) H110 O103 (want_none rfl) rfl (by decide) (op_bslice (by kernel_rfl) rfl (pt_cons (H110.ev rfl) pt_nil)) ?_
   intro g111 _ w113 H114 O115; clear H110 O103
   have O116 : Own w w113 [Bk g111 [.string f0, .slice Ab fb.length cb, J fsf] 38, Chunk.prow w P k38 38 w.heap.size So (.slice Ao out.length co) out, Bk g14 [.slice none 0 0, J 0, J 0, .bool false] 34, Bk g8 [.string f0, .slice Ab fb.length cb, J fsf] 38, Bk g2 [.slice Af files.length cf, J most, J fuse, .bool down] 34] := O115
   clear O115
   refine gw_pappend1 k38 (cs := [.string f0, .slice Ab fb.length cb, J fsf]) (p := (⟨f0, fb, fsf⟩ : S38)) hP H114 (by exact O116.sel [1, 0, 2, 3, 4] (by decide)) (want_none rfl) rfl (by decide) rfl Tryz.underlying32 gwinfo38 rfl (by decide) (by decide) (H114.ev rfl) (H114.ev rfl) (k38_mkF _ _ (⟨f0, fb, fsf⟩ : S38) hcb hB) O116.below.size (by first | omega | (simp; omega)) ?_
   intro A117 c118 S119 _ w121 H122 O123; clear H114 O116
   have O124 : Own w w121 [Chunk.prow w P k38 38 w.heap.size S119 (.slice A117 ((out ++ [(⟨f0, fb, fsf⟩ : S38)]).length) c118) (out ++ [(⟨f0, fb, fsf⟩ : S38)]), Bk g14 [.slice none 0 0, J 0, J 0, .bool false] 34, Bk g8 [.string f0, .slice Ab fb.length cb, J fsf] 38, Bk g2 [.slice Af files.length cf, J most, J fuse, .bool down] 34] := O123
   clear O123
   refine Va H122 fun _ H126 => ?_
   refine gE hK106 ?_
   clear H122
   refine wp_region_lit ?_
   refine Vc H126 fun _ H128 => ?_
   refine gE hK59 ?_
   refine gw_seq fun K129 hK129 => ?_
   clear H126
   refine gw_drawB O124 (by kernel_rfl) (by kernel_rfl) fun w130 O131 => ?_
   clear O124
   refine Vn H128 (op_field (gwfld34_0 _ _) rfl (H128.ev rfl)) fun _ H133 => ?_
   refine Vq H133 (fun wq hq => have HO := O131.after hq; op_load1 gwagg32 rfl (H133.ev rfl) (blk_at (HO.get 3 rfl) rfl)) fun _ H135 => ?_
   refine Vn H135 (op_move rfl (H135.ev rfl)) fun _ H137 => ?_
   clear H128 H133 H135
   obtain ⟨ad138, cs141, hA139, hl142, hK143, hc140, _⟩ := Kd.F_get hF z38 i (by omega) (by omega)
   obtain ⟨A144, c145, rfl, hl146, hC147⟩ := k38_openF hK143
   clear hl142
   refine Vn H137 (op_index Tryz.underlying32 gwsiz38 rfl (H137.ev rfl) (H137.ev rfl) hA139 (⟨by omega, by omega⟩)) fun _ H149 => ?_
   refine Vn H149 (op_field (gwflda38_0 _) rfl (H149.ev rfl)) fun _ H151 => ?_
   refine Vq H151 (fun wq hq => have HO := O131.after hq; op_load1 gwagg9 rfl (H151.ev rfl) ((cells0 HO hc140 0 _ rfl))) fun _ H153 => ?_
   refine Vn H153 (op_field (gwfld38_0 _ _) rfl (H153.ev rfl)) fun _ H155 => ?_
   refine Vq H155 (fun wq hq => have HO := O131.after hq; op_load1 gwagg9 rfl (H155.ev rfl) (blk_at (HO.get 2 rfl) rfl)) fun _ H157 => ?_
   refine Vn H157 (op_nes rfl (H157.ev rfl) (H157.ev rfl)) fun _ H159 => ?_
   clear H137 H149 H151 H153 H155 H157
   refine wpQuiet_nil ?_
   intro w160 hq
   have O161 := O131.after hq
   clear O131 hq
   refine gw_nx (hK129 _ _ ?_)
   refine gw_cond H159 rfl (fun hb162 => ?_) (fun hb162 => ?_)
   ·
    have H163 := H159.subst_ (d := 41) (b := true) rfl hb162
    clear H159
    (try simp only [Bool.and_eq_true, Bool.and_eq_false_iff, Bool.not_and, Bool.or_eq_true, Bool.or_eq_false_iff, Bool.not_or, Bool.not_not, Bool.not_eq_true', Bool.not_eq_false', Bool.not_eq_true, Bool.not_eq_false, beq_iff_eq, beq_eq_false_iff_ne, ne_eq] at hb162)
    have h41 := hb162
    refine wp_region_lit ?_
    refine Vm H163 fun _ H165 => ?_
    refine Vf H165 (gwfld34_0 _ _) fun _ H167 => ?_
    refine Vl H167 gwagg32 (O161.get 3 rfl) fun _ H169 => ?_
    refine Vm H169 fun _ H171 => ?_
    clear H163 H165 H167 H169
    obtain ⟨ad172, cs175, hA173, hl176, hK177, hc174, _⟩ := Kd.F_get hF z38 i (by omega) (by omega)
    obtain ⟨A178, c179, rfl, hl180, hC181⟩ := k38_openF hK177
    clear hl176
    refine V H171 (op_index Tryz.underlying32 gwsiz38 rfl (H171.ev rfl) (H171.ev rfl) hA173 (⟨by omega, by omega⟩)) fun _ H183 => ?_
    refine V H183 (op_loadc gwagg38 gwsiz38 rfl (H183.ev rfl) rfl (cells0 O161 hc174)) fun _ H185 => ?_
    clear H171 H183
    refine gw_news (O := .cells #[.string ((files.getD i.toNat z38).f0), .slice A178 ((files.getD i.toNat z38).f1.length) c179, J ((files.getD i.toNat z38).f2)] 38 (0, 0)) (n := 1) H185 O161 (want_none rfl) rfl (by decide) (op_bslice (by kernel_rfl) rfl (pt_cons (H185.ev rfl) pt_nil)) ?_
    intro g186 _ w188 H189 O190; clear H185 O161
    have O191 : Own w w188 [Bk g186 [.string ((files.getD i.toNat z38).f0), .slice A178 ((files.getD i.toNat z38).f1.length) c179, J ((files.getD i.toNat z38).f2)] 38, Chunk.prow w P k38 38 w.heap.size S119 (.slice A117 ((out ++ [(⟨f0, fb, fsf⟩ : S38)]).length) c118) (out ++ [(⟨f0, fb, fsf⟩ : S38)]), Bk g14 [.slice none 0 0, J 0, J 0, .bool false] 34, Bk g8 [.string f0, .slice Ab fb.length cb, J fsf] 38, Bk g2 [.slice Af files.length cf, J most, J fuse, .bool down] 34] := O190
    clear O190
    refine gw_pappend1 k38 (cs := [.string ((files.getD i.toNat z38).f0), .slice A178 ((files.getD i.toNat z38).f1.length) c179, J ((files.getD i.toNat z38).f2)]) (p := (⟨(files.getD i.toNat z38).f0, (files.getD i.toNat z38).f1, (files.getD i.toNat z38).f2⟩ : S38)) hP H189 (by exact O191.sel [1, 0, 2, 3, 4] (by decide)) (want_none rfl) rfl (by decide) rfl Tryz.underlying32 gwinfo38 rfl (by decide) (by decide) (H189.ev rfl) (H189.ev rfl) (k38_mkF _ _ (⟨(files.getD i.toNat z38).f0, (files.getD i.toNat z38).f1, (files.getD i.toNat z38).f2⟩ : S38) hl180 hC181) O191.below.size (by first | omega | (simp; omega)) ?_
    intro A192 c193 S194 _ w196 H197 O198; clear H189 O191
    have O199 : Own w w196 [Chunk.prow w P k38 38 w.heap.size S194 (.slice A192 (((out ++ [(⟨f0, fb, fsf⟩ : S38)]) ++ [(⟨(files.getD i.toNat z38).f0, (files.getD i.toNat z38).f1, (files.getD i.toNat z38).f2⟩ : S38)]).length) c193) ((out ++ [(⟨f0, fb, fsf⟩ : S38)]) ++ [(⟨(files.getD i.toNat z38).f0, (files.getD i.toNat z38).f1, (files.getD i.toNat z38).f2⟩ : S38)]), Bk g14 [.slice none 0 0, J 0, J 0, .bool false] 34, Bk g8 [.string f0, .slice Ab fb.length cb, J fsf] 38, Bk g2 [.slice Af files.length cf, J most, J fuse, .bool down] 34] := O198
    clear O198
    refine Va H197 fun _ H201 => ?_
    clear H197
    refine wpList_nil ?_
    refine gw_blk ?_
    refine gw_nx (hK58 _ _ ?_)
    refine wp_region_lit ?_
    refine Vm H201 fun _ H203 => ?_
    refine V H203 (op_add rfl (H203.ev rfl) (ev_c _ _) (by omega)) fun _ H205 => ?_
    refine Va H205 fun _ H207 => ?_
    clear H201 H203 H205
    refine wpList_nil ?_
    refine gw_nx ⟨_, ?_, i + 1, ((out ++ [(⟨f0, fb, fsf⟩ : S38)]) ++ [(⟨(files.getD i.toNat z38).f0, (files.getD i.toNat z38).f1, (files.getD i.toNat z38).f2⟩ : S38)]), A192, c193, _, true, (H207.pick (t := 7) rfl (H207.pick (t := 5) rfl (H207.pick (t := 6) rfl (H207.pick (t := 2) rfl (H207.pick (t := 3) rfl (H207.pick (t := 4) rfl H207.nil)))))), O199.sel [0, 1, 2, 3] (by decide), ?_, ?_, ?_, rfl⟩
    ·
     rw [hm43]; omega
    ·
     omega
    ·
     rw [← hW, withL_at z38 (show i.toNat < files.length by omega), show (i + 1).toNat = i.toNat + 1 by omega]; unfold geR neR; generalize files.getD i.toNat z38 = x_ at h28 h41 ⊢; first | (obtain ⟨h1_, h2_⟩ := h28; rw [h1_, h2_]; simp [h41]; done) | (rcases h28 with h_ | h_; (· rw [h_]; simp [h41]); (· rw [h_]; simp [h41]))
    (try simp only [List.length_append, List.length_singleton]); omega
   have H208 := H159.subst_ (d := 41) (b := false) rfl hb162
   clear H159
   (try simp only [Bool.and_eq_true, Bool.and_eq_false_iff, Bool.not_and, Bool.or_eq_true, Bool.or_eq_false_iff, Bool.not_or, Bool.not_not, Bool.not_eq_true', Bool.not_eq_false', Bool.not_eq_true, Bool.not_eq_false, beq_iff_eq, beq_eq_false_iff_ne, ne_eq] at hb162)
   have h41 := hb162
   refine wp_skip ?_
   refine gw_blk ?_
   refine gw_nx (hK58 _ _ ?_)
   refine wp_region_lit ?_
   refine Vm H208 fun _ H210 => ?_
   refine V H210 (op_add rfl (H210.ev rfl) (ev_c _ _) (by omega)) fun _ H212 => ?_
   refine Va H212 fun _ H214 => ?_
   clear H208 H210 H212
   refine wpList_nil ?_
   refine gw_nx ⟨_, ?_, i + 1, (out ++ [(⟨f0, fb, fsf⟩ : S38)]), A117, c118, _, true, (H214.pick (t := 7) rfl (H214.pick (t := 5) rfl (H214.pick (t := 6) rfl (H214.pick (t := 2) rfl (H214.pick (t := 3) rfl (H214.pick (t := 4) rfl H214.nil)))))), O161.sel [0, 1, 2, 3] (by decide), ?_, ?_, ?_, rfl⟩
   ·
    rw [hm43]; omega
   ·
    omega
   ·
    rw [← hW, withL_at z38 (show i.toNat < files.length by omega), show (i + 1).toNat = i.toNat + 1 by omega]; unfold geR neR; generalize files.getD i.toNat z38 = x_ at h28 h41 ⊢; first | (obtain ⟨h1_, h2_⟩ := h28; rw [h1_, h2_]; simp [h41]; done) | (rcases h28 with h_ | h_; (· rw [h_]; simp [h41]); (· rw [h_]; simp [h41]))
   (try simp only [List.length_append, List.length_singleton]); omega
  have H215 := H101.subst_ (d := 28) (b := false) rfl hb104
  clear H101
  (try simp only [Bool.and_eq_true, Bool.and_eq_false_iff, Bool.not_and, Bool.or_eq_true, Bool.or_eq_false_iff, Bool.not_or, Bool.not_not, Bool.not_eq_true', Bool.not_eq_false', Bool.not_eq_true, Bool.not_eq_false] at hb104)
  have h28 := hb104
  refine gS hK59 ?_
  refine gw_seq fun K216 hK216 => ?_
  refine gw_drawB O103 (by kernel_rfl) (by kernel_rfl) fun w217 O218 => ?_
  clear O103
  refine Vn H215 (op_field (gwfld34_0 _ _) rfl (H215.ev rfl)) fun _ H220 => ?_
  refine Vq H220 (fun wq hq => have HO := O218.after hq; op_load1 gwagg32 rfl (H220.ev rfl) (blk_at (HO.get 3 rfl) rfl)) fun _ H222 => ?_
  refine Vn H222 (op_move rfl (H222.ev rfl)) fun _ H224 => ?_
  clear H215 H220 H222
  obtain ⟨ad225, cs228, hA226, hl229, hK230, hc227, _⟩ := Kd.F_get hF z38 i (by omega) (by omega)
  obtain ⟨A231, c232, rfl, hl233, hC234⟩ := k38_openF hK230
  clear hl229
  refine Vn H224 (op_index Tryz.underlying32 gwsiz38 rfl (H224.ev rfl) (H224.ev rfl) hA226 (⟨by omega, by omega⟩)) fun _ H236 => ?_
  refine Vn H236 (op_field (gwflda38_0 _) rfl (H236.ev rfl)) fun _ H238 => ?_
  refine Vq H238 (fun wq hq => have HO := O218.after hq; op_load1 gwagg9 rfl (H238.ev rfl) ((cells0 HO hc227 0 _ rfl))) fun _ H240 => ?_
  refine Vn H240 (op_field (gwfld38_0 _ _) rfl (H240.ev rfl)) fun _ H242 => ?_
  refine Vq H242 (fun wq hq => have HO := O218.after hq; op_load1 gwagg9 rfl (H242.ev rfl) (blk_at (HO.get 2 rfl) rfl)) fun _ H244 => ?_
  refine Vn H244 (op_nes rfl (H244.ev rfl) (H244.ev rfl)) fun _ H246 => ?_
  clear H224 H236 H238 H240 H242 H244
  refine wpQuiet_nil ?_
  intro w247 hq
  have O248 := O218.after hq
  clear O218 hq
  refine gw_nx (hK216 _ _ ?_)
  refine gw_cond H246 rfl (fun hb249 => ?_) (fun hb249 => ?_)
  ·
   have H250 := H246.subst_ (d := 41) (b := true) rfl hb249
   clear H246
   (try simp only [Bool.and_eq_true, Bool.and_eq_false_iff, Bool.not_and, Bool.or_eq_true, Bool.or_eq_false_iff, Bool.not_or, Bool.not_not, Bool.not_eq_true', Bool.not_eq_false', Bool.not_eq_true, Bool.not_eq_false, beq_iff_eq, beq_eq_false_iff_ne, ne_eq] at hb249)
   have h41 := hb249
   refine wp_region_lit ?_
   refine Vm H250 fun _ H252 => ?_
   refine Vf H252 (gwfld34_0 _ _) fun _ H254 => ?_
   refine Vl H254 gwagg32 (O248.get 3 rfl) fun _ H256 => ?_
   refine Vm H256 fun _ H258 => ?_
   clear H250 H252 H254 H256
   obtain ⟨ad259, cs262, hA260, hl263, hK264, hc261, _⟩ := Kd.F_get hF z38 i (by omega) (by omega)
   obtain ⟨A265, c266, rfl, hl267, hC268⟩ := k38_openF hK264
   clear hl263
   refine V H258 (op_index Tryz.underlying32 gwsiz38 rfl (H258.ev rfl) (H258.ev rfl) hA260 (⟨by omega, by omega⟩)) fun _ H270 => ?_
   refine V H270 (op_loadc gwagg38 gwsiz38 rfl (H270.ev rfl) rfl (cells0 O248 hc261)) fun _ H272 => ?_
   clear H258 H270
   refine gw_news (O := .cells #[.string ((files.getD i.toNat z38).f0), .slice A265 ((files.getD i.toNat z38).f1.length) c266, J ((files.getD i.toNat z38).f2)] 38 (0, 0)) (n := 1) H272 O248 (want_none rfl) rfl (by decide) (op_bslice (by kernel_rfl) rfl (pt_cons (H272.ev rfl) pt_nil)) ?_
   intro g273 _ w275 H276 O277; clear H272 O248
   have O278 : Own w w275 [Bk g273 [.string ((files.getD i.toNat z38).f0), .slice A265 ((files.getD i.toNat z38).f1.length) c266, J ((files.getD i.toNat z38).f2)] 38, Chunk.prow w P k38 38 w.heap.size So (.slice Ao out.length co) out, Bk g14 [.slice none 0 0, J 0, J 0, .bool false] 34, Bk g8 [.string f0, .slice Ab fb.length cb, J fsf] 38, Bk g2 [.slice Af files.length cf, J most, J fuse, .bool down] 34] := O277
   clear O277
   refine gw_pappend1 k38 (cs := [.string ((files.getD i.toNat z38).f0), .slice A265 ((files.getD i.toNat z38).f1.length) c266, J ((files.getD i.toNat z38).f2)]) (p := (⟨(files.getD i.toNat z38).f0, (files.getD i.toNat z38).f1, (files.getD i.toNat z38).f2⟩ : S38)) hP H276 (by exact O278.sel [1, 0, 2, 3, 4] (by decide)) (want_none rfl) rfl (by decide) rfl Tryz.underlying32 gwinfo38 rfl (by decide) (by decide) (H276.ev rfl) (H276.ev rfl) (k38_mkF _ _ (⟨(files.getD i.toNat z38).f0, (files.getD i.toNat z38).f1, (files.getD i.toNat z38).f2⟩ : S38) hl267 hC268) O278.below.size (by first | omega | (simp; omega)) ?_
   intro A279 c280 S281 _ w283 H284 O285; clear H276 O278
   have O286 : Own w w283 [Chunk.prow w P k38 38 w.heap.size S281 (.slice A279 ((out ++ [(⟨(files.getD i.toNat z38).f0, (files.getD i.toNat z38).f1, (files.getD i.toNat z38).f2⟩ : S38)]).length) c280) (out ++ [(⟨(files.getD i.toNat z38).f0, (files.getD i.toNat z38).f1, (files.getD i.toNat z38).f2⟩ : S38)]), Bk g14 [.slice none 0 0, J 0, J 0, .bool false] 34, Bk g8 [.string f0, .slice Ab fb.length cb, J fsf] 38, Bk g2 [.slice Af files.length cf, J most, J fuse, .bool down] 34] := O285
   clear O285
   refine Va H284 fun _ H288 => ?_
   clear H284
   refine wpList_nil ?_
   refine gw_blk ?_
   refine gw_nx (hK58 _ _ ?_)
   refine wp_region_lit ?_
   refine Vm H288 fun _ H290 => ?_
   refine V H290 (op_add rfl (H290.ev rfl) (ev_c _ _) (by omega)) fun _ H292 => ?_
   refine Va H292 fun _ H294 => ?_
   clear H288 H290 H292
   refine wpList_nil ?_
   refine gw_nx ⟨_, ?_, i + 1, (out ++ [(⟨(files.getD i.toNat z38).f0, (files.getD i.toNat z38).f1, (files.getD i.toNat z38).f2⟩ : S38)]), A279, c280, _, dn, (H294.pick (t := 7) rfl (H294.pick (t := 5) rfl (H294.pick (t := 6) rfl (H294.pick (t := 2) rfl (H294.pick (t := 3) rfl (H294.pick (t := 4) rfl H294.nil)))))), O286.sel [0, 1, 2, 3] (by decide), ?_, ?_, ?_, rfl⟩
   ·
    rw [hm43]; omega
   ·
    omega
   ·
    rw [← hW, withL_at z38 (show i.toNat < files.length by omega), show (i + 1).toNat = i.toNat + 1 by omega]; unfold geR neR; generalize files.getD i.toNat z38 = x_ at h28 h41 ⊢; first | (obtain ⟨h1_, h2_⟩ := h28; rw [h1_, h2_]; simp [h41]; done) | (rcases h28 with h_ | h_; (· rw [h_]; simp [h41]); (· rw [h_]; simp [h41]))
   (try simp only [List.length_append, List.length_singleton]); omega
  have H295 := H246.subst_ (d := 41) (b := false) rfl hb249
  clear H246
  (try simp only [Bool.and_eq_true, Bool.and_eq_false_iff, Bool.not_and, Bool.or_eq_true, Bool.or_eq_false_iff, Bool.not_or, Bool.not_not, Bool.not_eq_true', Bool.not_eq_false', Bool.not_eq_true, Bool.not_eq_false, beq_iff_eq, beq_eq_false_iff_ne, ne_eq] at hb249)
  have h41 := hb249
  refine wp_skip ?_
  refine gw_blk ?_
  refine gw_nx (hK58 _ _ ?_)
  refine wp_region_lit ?_
  refine Vm H295 fun _ H297 => ?_
  refine V H297 (op_add rfl (H297.ev rfl) (ev_c _ _) (by omega)) fun _ H299 => ?_
  refine Va H299 fun _ H301 => ?_
  clear H295 H297 H299
  refine wpList_nil ?_
  refine gw_nx ⟨_, ?_, i + 1, out, Ao, co, _, dn, (H301.pick (t := 7) rfl (H301.pick (t := 5) rfl (H301.pick (t := 6) rfl (H301.pick (t := 2) rfl (H301.pick (t := 3) rfl (H301.pick (t := 4) rfl H301.nil)))))), O248.sel [0, 1, 2, 3] (by decide), ?_, ?_, ?_, rfl⟩
  ·
   rw [hm43]; omega
  ·
   omega
  ·
   rw [← hW, withL_at z38 (show i.toNat < files.length by omega), show (i + 1).toNat = i.toNat + 1 by omega]; unfold geR neR; generalize files.getD i.toNat z38 = x_ at h28 h41 ⊢; first | (obtain ⟨h1_, h2_⟩ := h28; rw [h1_, h2_]; simp [h41]; done) | (rcases h28 with h_ | h_; (· rw [h_]; simp [h41]); (· rw [h_]; simp [h41]))
  (try simp only [List.length_append, List.length_singleton]); omega
 have H302 := H55.subst_ (d := 13) (b := false) rfl hb56
 clear H55
 (try simp only [decide_eq_false_iff_not, Int.not_lt] at hb56)
 refine wp_exit ?_
 refine gw_thx ?_
 refine gw_thx ?_
 refine gw_in ?_
 refine gw_nx (hK33 _ _ ?_)
 refine gw_seq fun K303 hK303 => ?_
 refine gR fun K304 hK304 => ?_
 refine Vm H302 fun _ H306 => ?_
 refine V H306 (op_not rfl (H306.ev rfl)) fun _ H308 => ?_
 refine gE hK304 ?_
 clear H302 H306
 refine gw_cond H308 rfl (fun hb309 => ?_) (fun hb309 => ?_)
 ·
  have H310 := H308.subst_ (d := 51) (b := true) rfl hb309
  clear H308
  (try simp only [Bool.and_eq_true, Bool.and_eq_false_iff, Bool.not_and, Bool.or_eq_true, Bool.or_eq_false_iff, Bool.not_or, Bool.not_not, Bool.not_eq_true', Bool.not_eq_false', Bool.not_eq_true, Bool.not_eq_false] at hb309)
  have h51 := hb309
  refine wp_region_lit ?_
  refine Vm H310 fun _ H312 => ?_
  refine V H312 (op_loadn gwagg38 gwsiz38 rfl (H312.ev rfl) (O42.get 2 rfl) rfl rfl) fun _ H314 => ?_
  clear H310 H312
  refine gw_news (O := .cells #[.string f0, .slice Ab fb.length cb, J fsf] 38 (0, 0)) (n := 1) H314 O42 (want_none rfl) rfl (by decide) (op_bslice (by kernel_rfl) rfl (pt_cons (H314.ev rfl) pt_nil)) ?_
  intro g315 _ w317 H318 O319; clear H314 O42
  have O320 : Own w w317 [Bk g315 [.string f0, .slice Ab fb.length cb, J fsf] 38, Chunk.prow w P k38 38 w.heap.size So (.slice Ao out.length co) out, Bk g14 [.slice none 0 0, J 0, J 0, .bool false] 34, Bk g8 [.string f0, .slice Ab fb.length cb, J fsf] 38, Bk g2 [.slice Af files.length cf, J most, J fuse, .bool down] 34] := O319
  clear O319
  refine gw_pappend1 k38 (cs := [.string f0, .slice Ab fb.length cb, J fsf]) (p := (⟨f0, fb, fsf⟩ : S38)) hP H318 (by exact O320.sel [1, 0, 2, 3, 4] (by decide)) (want_none rfl) rfl (by decide) rfl Tryz.underlying32 gwinfo38 rfl (by decide) (by decide) (H318.ev rfl) (H318.ev rfl) (k38_mkF _ _ (⟨f0, fb, fsf⟩ : S38) hcb hB) O320.below.size (by first | omega | (simp; omega)) ?_
  intro A321 c322 S323 _ w325 H326 O327; clear H318 O320
  have O328 : Own w w325 [Chunk.prow w P k38 38 w.heap.size S323 (.slice A321 ((out ++ [(⟨f0, fb, fsf⟩ : S38)]).length) c322) (out ++ [(⟨f0, fb, fsf⟩ : S38)]), Bk g14 [.slice none 0 0, J 0, J 0, .bool false] 34, Bk g8 [.string f0, .slice Ab fb.length cb, J fsf] 38, Bk g2 [.slice Af files.length cf, J most, J fuse, .bool down] 34] := O327
  clear O327
  refine Va H326 fun _ H330 => ?_
  refine gE hK303 ?_
  refine gR fun K331 hK331 => ?_
  refine Vm H330 fun _ H333 => ?_
  refine Vf H333 (gwfld34_0 _ _) fun _ H335 => ?_
  clear H326 H330 H333
  refine gw_set 3 H335 O328 rfl (want_none rfl) rfl (op_store1 gwsiz32 rfl (H335.ev rfl) (H335.ev rfl) rfl (blk_at (O328.get 3 rfl) rfl) (blkf (O328.get 3 rfl))) ?_
  intro _ w338 H337 O339; clear H335 O328
  refine gE hK331 ?_
  refine gR fun K340 hK340 => ?_
  refine V H337 (op_loadn gwagg34 gwsiz34 rfl (H337.ev rfl) (O339.get 3 rfl) rfl rfl) fun _ H342 => ?_
  clear H337
  refine gw_setn 1 H342 O339 rfl (want_none rfl) rfl (op_storen gwsiz34 rfl (H342.ev rfl) (H342.ev rfl) (O339.get 1 rfl) rfl (by simp) (by simp [Value.oneCell'])) ?_
  intro _ w345 H344 O346; clear H342 O339
  refine gE hK340 ?_
  refine wp_ret ?_
  refine gw_rets1 H344 rfl (rv_celln H344 rfl gwagg34 gwsiz34 (O346.get 1 rfl) rfl) ?_
  have hz_ : files.drop i.toNat = [] := List.drop_eq_nil_of_le (by omega)
  rw [hz_] at hW
  have hr_ : (out ++ [(⟨f0, fb, fsf⟩ : S38)]) = withL (⟨f0, fb, fsf⟩ : S38) files false := by rw [← hW]; unfold withL; simp [h51]
  rw [← hr_]
  exact ⟨_, _, rfl, Kd.N_mono (prow_N O346 hP (O346.get 0 rfl)) (fun k_ hk_ => hk_.elim .inl (fun h_ => .inr (O346.lt 0 rfl h_).1)), O346.below⟩
 have H347 := H308.subst_ (d := 51) (b := false) rfl hb309
 clear H308
 (try simp only [Bool.and_eq_true, Bool.and_eq_false_iff, Bool.not_and, Bool.or_eq_true, Bool.or_eq_false_iff, Bool.not_or, Bool.not_not, Bool.not_eq_true', Bool.not_eq_false', Bool.not_eq_true, Bool.not_eq_false] at hb309)
 have h51 := hb309
 refine gS hK303 ?_
 refine gR fun K348 hK348 => ?_
 refine Vm H347 fun _ H350 => ?_
 refine Vf H350 (gwfld34_0 _ _) fun _ H352 => ?_
 clear H347 H350
 refine gw_set 3 H352 O42 rfl (want_none rfl) rfl (op_store1 gwsiz32 rfl (H352.ev rfl) (H352.ev rfl) rfl (blk_at (O42.get 3 rfl) rfl) (blkf (O42.get 3 rfl))) ?_
 intro _ w355 H354 O356; clear H352 O42
 refine gE hK348 ?_
 refine gR fun K357 hK357 => ?_
 refine V H354 (op_loadn gwagg34 gwsiz34 rfl (H354.ev rfl) (O356.get 3 rfl) rfl rfl) fun _ H359 => ?_
 clear H354
 refine gw_setn 1 H359 O356 rfl (want_none rfl) rfl (op_storen gwsiz34 rfl (H359.ev rfl) (H359.ev rfl) (O356.get 1 rfl) rfl (by simp) (by simp [Value.oneCell'])) ?_
 intro _ w362 H361 O363; clear H359 O356
 refine gE hK357 ?_
 refine wp_ret ?_
 refine gw_rets1 H361 rfl (rv_celln H361 rfl gwagg34 gwsiz34 (O363.get 1 rfl) rfl) ?_
 have hz_ : files.drop i.toNat = [] := List.drop_eq_nil_of_le (by omega)
 rw [hz_] at hW
 have hr_ : out = withL (⟨f0, fb, fsf⟩ : S38) files false := by rw [← hW]; unfold withL; simp [h51]
 rw [← hr_]
 exact ⟨_, _, rfl, Kd.N_mono (prow_N O363 hP (O363.get 0 rfl)) (fun k_ hk_ => hk_.elim .inl (fun h_ => .inr (O363.lt 0 rfl h_).1)), O363.below⟩
end GRefW_
export GRefW_ (with_calls)
section
open Go.Maps
def ofS (x : S38) : PF := ⟨x.f0, x.f1, x.f2⟩
theorem less_before : ∀ a b : List UInt8, Op.bytesLess a b = bytesBefore a b
  | [], [] => rfl
  | [], _ :: _ => rfl
  | _ :: _, [] => rfl
  | a :: r, b :: s => by
    have ih := less_before r s
    unfold Op.bytesLess bytesBefore
    rw [ih]
theorem geR_before (x f : S38) : geR x f = !(litS x.f0).before (litS f.f0) := by
  unfold geR
  rw [less_before, ByteArray.toList_eq, ByteArray.toList_eq]
  rfl
theorem neR_ne (x f : S38) : neR x f = !decide (x.f0 = f.f0) := by
  unfold neR
  by_cases h : x.f0 = f.f0
  · simp [h]
  · have : ¬ x.f0.toList = f.f0.toList := fun e => h (bytes_ext e)
    simp [h, this]
theorem withL_done (f : S38) : ∀ files : List S38, (withL f files true).map ofS = delF f.f0 (files.map ofS)
  | [] => rfl
  | x :: r => by
    have ih := withL_done f r
    unfold withL
    rw [neR_ne]
    show ((if (!true && geR x f) = true then [f] else []) ++ ((if (!decide (x.f0 = f.f0)) = true then [x] else []) ++ withL f r true)).map ofS = delF f.f0 (ofS x :: r.map ofS)
    unfold delF at ih ⊢
    rw [List.filter_cons, ← ih]
    show _ = if (!decide (x.f0 = f.f0)) = true then _ else _
    by_cases h : x.f0 = f.f0 <;> simp [h]
theorem withL_ins (f : S38) : ∀ files : List S38, risF (files.map ofS) → (withL f files false).map ofS = insF (ofS f) (delF f.f0 (files.map ofS))
  | [], _ => rfl
  | x :: r, hr => by
    obtain ⟨h1, h2⟩ := List.pairwise_cons.1 hr
    have ih := withL_ins f r h2
    have hd := withL_done f r
    unfold withL
    rw [neR_ne, geR_before]
    have hcons : delF f.f0 ((x :: r).map ofS) = if (!decide (x.f0 = f.f0)) = true then ofS x :: delF f.f0 (r.map ofS) else delF f.f0 (r.map ofS) := by
      unfold delF
      rw [List.map_cons, List.filter_cons]
      rfl
    rw [hcons]
    cases hb : (litS x.f0).before (litS f.f0)
    · -- x isn't before f
      show ((if (!false && !false) = true then [f] else []) ++ ((if (!decide (x.f0 = f.f0)) = true then [x] else []) ++ withL f r (false || !false))).map ofS = _
      have e1 : withL f r (false || !false) = withL f r true := rfl
      rw [e1]
      by_cases h : x.f0 = f.f0
      · simp only [h, decide_true, Bool.not_true, Bool.false_eq_true, if_false, Bool.not_false, Bool.and_self, if_true, List.nil_append, List.map_append, List.map_cons, List.map_nil, hd]
        have hn : ∀ g ∈ r.map ofS, g.nm ≠ f.f0 := fun g hg => by
          have := bef_ne (h1 g hg)
          rw [← h]
          exact fun e => this e.symm
        rw [del_none hn]
        show [ofS f] ++ r.map ofS = insF (ofS f) (r.map ofS)
        cases hr2 : r.map ofS with
        | nil => rfl
        | cons y q =>
          have := h1 y (by rw [hr2]; simp)
          have hfy : (litS (ofS f).nm).before (litS y.nm) = true := by show (litS f.f0).before (litS y.nm) = true; rw [← h]; exact this
          unfold insF
          rw [if_pos hfy]
          rfl
      · have hfx : (litS f.f0).before (litS x.f0) = true := by
          rcases bef_total (a := x.f0) (b := f.f0) h with h3 | h3
          · rw [hb] at h3; cases h3
          · exact h3
        simp only [h, decide_false, Bool.not_false, if_true, Bool.and_self, List.map_append, List.map_cons, List.map_nil, hd]
        show [ofS f] ++ ([ofS x] ++ delF f.f0 (r.map ofS)) = insF (ofS f) (ofS x :: delF f.f0 (r.map ofS))
        unfold insF
        rw [if_pos (show (litS (ofS f).nm).before (litS (ofS x).nm) = true from hfx)]
        rfl
    · have h : ¬ x.f0 = f.f0 := bef_ne hb
      have hfx : ¬ (litS (ofS f).nm).before (litS (ofS x).nm) = true := fun h3 => by
        have := Go.WideShapes.before_trans hb (show (litS f.f0).before (litS x.f0) = true from h3)
        rw [Go.WideShapes.before_irrefl] at this
        cases this
      show ((if (!false && !true) = true then [f] else []) ++ ((if (!decide (x.f0 = f.f0)) = true then [x] else []) ++ withL f r (false || !true))).map ofS = _
      have e1 : withL f r (false || !true) = withL f r false := rfl
      rw [e1]
      simp only [h, decide_false, Bool.not_false, if_true, Bool.not_true, Bool.and_false, Bool.false_eq_true, if_false, List.nil_append, List.map_append, List.map_cons, List.map_nil, ih]
      show [ofS x] ++ insF (ofS f) (delF f.f0 (r.map ofS)) = insF (ofS f) (ofS x :: delF f.f0 (r.map ofS))
      rw [insF, if_neg hfx]
      rfl
theorem upd_ins {nm : ByteArray} {h : PF → PF} {f : PF} : ∀ {fs : List PF}, risF fs → getF nm fs = some f → (h f).nm = nm → insF (h f) (delF nm fs) = updF nm h fs
  | [], _, hg, _ => by simp [getF] at hg
  | x :: r, hr, hg, hn => by
    obtain ⟨h1, h2⟩ := List.pairwise_cons.1 hr
    by_cases hx : x.nm = nm
    · have hf : f = x := by
        unfold getF at hg
        rw [List.find?_cons_of_pos (by simpa using hx)] at hg
        exact (Option.some.inj hg).symm
      subst hf
      have hrn : ∀ g ∈ r, g.nm ≠ nm := fun g hg => by rw [← hx]; exact fun e => bef_ne (h1 g hg) e.symm
      have e1 : delF nm (f :: r) = r := by
        have := del_split (pre := []) (post := r) hx (by simpa using hrn)
        simpa using this
      have e2 : updF nm h (f :: r) = h f :: r := by
        have := upd_split (h := h) (pre := []) (post := r) hx (by simpa using hrn)
        simpa using this
      rw [e1, e2]
      cases r with
      | nil => rfl
      | cons y q =>
        have := h1 y (by simp)
        unfold insF
        rw [if_pos (by rw [hn, ← hx]; exact this)]
    · have hg2 : getF nm r = some f := by
        unfold getF at hg ⊢
        rwa [List.find?_cons_of_neg (by simpa using hx)] at hg
      have ih := upd_ins h2 hg2 hn
      have hfm := (getF_mem hg2)
      have hb : (litS x.nm).before (litS nm) = true := by rw [← hfm.2]; exact h1 f hfm.1
      have hnb : ¬ (litS (h f).nm).before (litS x.nm) = true := fun h3 => by
        rw [hn] at h3
        have := Go.WideShapes.before_trans hb h3
        rw [Go.WideShapes.before_irrefl] at this
        cases this
      have e1 : delF nm (x :: r) = x :: delF nm r := by unfold delF; rw [List.filter_cons, if_pos (by simp [hx])]
      have e2 : updF nm h (x :: r) = x :: updF nm h r := by unfold updF; rw [List.map_cons, if_neg hx]
      rw [e1, e2, insF, if_neg hnb, ih]
def findR (nm : ByteArray) : List S38 → Int → Int
  | [], _ => -1
  | x :: r, i => if (x.f0.toList == nm.toList) = true then i else findR nm r (i + 1)
theorem findR_at {nm : ByteArray} {fs : List S38} {i : Nat} (z : S38) (hi : i < fs.length) (k : Int) : findR nm (fs.drop i) k = if ((fs.getD i z).f0.toList == nm.toList) = true then k else findR nm (fs.drop (i + 1)) (k + 1) := by
  have e : fs.getD i z = fs[i] := by simp [List.getD_eq_getElem?_getD, List.getElem?_eq_getElem hi]
  rw [List.drop_eq_getElem_cons hi, e]
  rfl
theorem find_cases (nm : ByteArray) (z : S38) : ∀ (fs : List S38) (k : Int), (findR nm fs k = -1 ∧ getF nm (fs.map ofS) = none) ∨ ∃ i : Nat, findR nm fs k = k + i ∧ i < fs.length ∧ getF nm (fs.map ofS) = some (ofS (fs.getD i z))
  | [], _ => .inl ⟨rfl, rfl⟩
  | x :: r, k => by
    unfold findR
    by_cases h : x.f0 = nm
    · refine .inr ⟨0, ?_, by simp, ?_⟩
      · rw [if_pos (by rw [h]; simp)]; simp
      · unfold getF
        rw [List.map_cons, List.find?_cons_of_pos (p := fun f : PF => decide (f.nm = nm)) (a := ofS x) (decide_eq_true h)]
        rfl
    · have h2 : ¬ x.f0.toList = nm.toList := fun e => h (bytes_ext e)
      rw [if_neg (by simpa using h2)]
      have hg : getF nm ((x :: r).map ofS) = getF nm (r.map ofS) := by
        unfold getF
        rw [List.map_cons, List.find?_cons_of_neg (p := fun f : PF => decide (f.nm = nm)) (a := ofS x) (by show ¬ decide (x.f0 = nm) = true; simpa using h)]
      rw [hg]
      rcases find_cases nm z r (k + 1) with h3 | ⟨i, h3, h4, h5⟩
      · exact .inl h3
      · exact .inr ⟨i + 1, by rw [h3]; push_cast; omega, by simp; omega, by rw [h5]; simp⟩
theorem find3 (nm : ByteArray) (z : S38) (fs : List S38) : (findR nm fs 0 = -1 ∧ getF nm (fs.map ofS) = none) ∨ ∃ i : Int, findR nm fs 0 = i ∧ (0 ≤ i ∧ i < fs.length) ∧ getF nm (fs.map ofS) = some (ofS (fs.getD i.toNat z)) := by
  rcases find_cases nm z fs 0 with h | ⟨i, h1, h2, h3⟩
  · exact .inl h
  · exact .inr ⟨i, by rw [h1]; omega, ⟨by omega, by omega⟩, by rw [h3]; simp⟩
theorem used_of (fs : List S38) : totF (fs.map ofS) = (fs.map fun x => x.f1.length).sum := by unfold totF; rw [List.map_map]; rfl
section
variable {w0 w w' : World} {P : Nat → Prop} {L : List Chunk} {C : Chunk}
theorem with_own (Af : Option Addr) (cf : Nat) (files : List S38) (most fuse : Int) (down : Bool) (f0 : ByteArray) (Ab : Option Addr) (cb : Nat) (fb : List Int) (fsf : Int) (hP : ∀ k, P k → k < w0.heap.size) (i : Nat) (hi : L[i]? = some C) (HO : Own w0 w L)
    (hF : Kd.F k38 w (fun k => P k ∨ C.S k) Af files.length files) (hcf : files.length ≤ cf) (hB : Kd.F (Kd.int .u8) w (fun k => P k ∨ C.S k) Ab fb.length fb) (hcb : fb.length ≤ cb) (hlf : files.length ≤ 1000000) :
    Calls Tryz.prog 10 #[.agg #[.slice Af files.length cf, .int .i64 most, .int .i64 fuse, .bool down], .agg #[.string f0, .slice Ab fb.length cb, .int .i64 fsf]] w fun e w' => ∃ A' c' S', e = .returned (.agg #[.slice A' (withL ⟨f0, fb, fsf⟩ files false).length c', .int .i64 most, .int .i64 fuse, .bool down]) ∧
      Out w w' C.S [Chunk.prow w0 P k38 38 w0.heap.size S' (.slice A' (withL ⟨f0, fb, fsf⟩ files false).length c') (withL ⟨f0, fb, fsf⟩ files false)] := by
  have hCw : ∀ k, C.S k → k < w.heap.size := fun k hk => (HO.lt i hi hk).2
  have hPw : ∀ k, P k → k < w.heap.size := fun k hk => Nat.lt_of_lt_of_le (hP k hk) HO.below.size
  refine (with_calls (fun k => P k ∨ C.S k) Af cf files most fuse down f0 Ab cb fb fsf w (fun k hk => hk.elim (hPw k) (hCw k)) hF hcf hB hcb hlf).mono ?_
  rintro e w' ⟨A', c', rfl, hN, hb⟩
  have hN2 := Kd.N_bound hN
  have hown : ∀ k, (Value.slice A' (withL ⟨f0, fb, fsf⟩ files false).length c').ownBlock = some k → C.S k ∨ w.heap.size ≤ k ∧ k < w'.heap.size := fun k hk => .inr ⟨Kd.N_base hN k hk, Kd.N_lt hN k hk⟩
  have hPk : ∀ k, P k → w'.heap[k]? = w0.heap[k]? := fun k hk => (hb.block k (hPw k hk)).trans (HO.below.block k (hP k hk))
  refine ⟨A', c', (fun k => C.S k ∨ w.heap.size ≤ k ∧ k < w'.heap.size), rfl, Out.one (Out.of_below hb _) (c := Chunk.prow w0 P k38 38 w0.heap.size (fun k => C.S k ∨ w.heap.size ≤ k ∧ k < w'.heap.size) _ _) (prow_of hown ?_ hPk) ?_⟩
  · refine Kd.N_lower (Kd.N_mono hN2 fun k hk => ?_) HO.below.size
    rcases hk.1 with (h | h) | h
    · exact .inl h
    · exact .inr (.inl h)
    · exact .inr (.inr ⟨h, hk.2⟩)
  · intro k hk
    rcases hk with hk | hk
    · exact ⟨.inl hk, Nat.lt_of_lt_of_le (hCw k hk) hb.size⟩
    · exact ⟨.inr hk.1, hk.2⟩
theorem F_up {α : Type} {d : Kd α} {A : Option Addr} {n : Nat} {xs : List α} (HO : Own w0 w L) (hP : ∀ k, P k → k < w0.heap.size) (h : Kd.F d w0 P A n xs) (C : Chunk) : Kd.F d w (fun k => P k ∨ C.S k) A n xs :=
  Kd.F_mono (Kd.F_step h fun k hk _ => HO.below.block k (hP k hk)) fun k hk => .inl hk
end
def DoPost (P : Nat → Prop) (w w' : World) (e : Ending) (r : PD × Int) : Prop := ∃ files' A' c', files'.map ofS = r.1.fs ∧ e = .returned (.tuple #[.agg #[.slice A' files'.length c', .int .i64 r.1.most, .int .i64 r.1.fuse, .bool r.1.down], .int .i64 r.2]) ∧
  Kd.V k38 38 w' w.heap.size (fun k => P k ∨ w.heap.size ≤ k) (.slice A' files'.length c') files' ∧ Below w.heap.size w w' ∧ ∀ ad, A' = some ad → (P ad.block ∨ w.heap.size ≤ ad.block) ∧ ad.block < w'.heap.size
theorem do_same {P : Nat → Prop} {w w' : World} {r : PD × Int} {d2 : PD} {c : Int} {Af : Option Addr} {cf : Nat} {files : List S38} (hP : ∀ k, P k → k < w.heap.size) (hr : r = (d2, c)) (hd : files.map ofS = d2.fs) (hF : Kd.F k38 w P Af files.length files) (hcf : files.length ≤ cf) (hA : ∀ ad, Af = some ad → P ad.block) (hb : Below w.heap.size w w') :
    DoPost P w w' (.returned (.tuple #[.agg #[.slice Af files.length cf, .int .i64 d2.most, .int .i64 d2.fuse, .bool d2.down], .int .i64 c])) r := by
  rw [hr]
  exact ⟨files, Af, cf, hd, rfl, Kd.V_mk hcf (Kd.F_mono (Kd.F_step hF fun k hk _ => hb.block k (hP k hk)) fun k hk => .inl hk), hb, fun ad e => ⟨.inl (hA ad e), Nat.lt_of_lt_of_le (hP _ (hA ad e)) hb.size⟩⟩
theorem do_new {P S : Nat → Prop} {w w' : World} {L : List Chunk} {r : PD × Int} {d2 : PD} {c : Int} {A : Option Addr} {cf : Nat} {files : List S38} (hP : ∀ k, P k → k < w.heap.size) (hr : r = (d2, c)) (hd : files.map ofS = d2.fs) (HO : Own w w' L) (i : Nat) (hi : L[i]? = some (Chunk.prow w P k38 38 w.heap.size S (.slice A files.length cf) files)) :
    DoPost P w w' (.returned (.tuple #[.agg #[.slice A files.length cf, .int .i64 d2.most, .int .i64 d2.fuse, .bool d2.down], .int .i64 c])) r := by
  rw [hr]
  have hN := prow_N HO hP (HO.get i hi)
  exact ⟨files, A, cf, hd, rfl, Kd.V_mono (Kd.N_V hN) (fun k hk => hk.elim .inl fun h => .inr (HO.lt i hi h).1), HO.below, fun ad e => by
    have h1 := (HO.get i hi).1 ad.block (by rw [e]; rfl)
    exact ⟨.inr (HO.lt i hi h1).1, (HO.lt i hi h1).2⟩⟩
end
section
open Go.Maps
theorem sum_take (l : List Nat) (i : Nat) (hi : i < l.length) : (l.take (i + 1)).sum = (l.take i).sum + l.getD i 0 := by
  have e : l.getD i 0 = l[i] := by simp [List.getD_eq_getElem?_getD, List.getElem?_eq_getElem hi]
  rw [e, List.take_succ_eq_append_getElem hi, List.sum_append]
  simp
theorem sum_le (l : List Nat) (i : Nat) : (l.take i).sum ≤ l.sum := by
  have : l.sum = (l.take i).sum + (l.drop i).sum := by rw [← List.sum_append, List.take_append_drop]
  omega
theorem usum {files : List S38} {i : Nat} (z : S38) (hi : i < files.length) : ((files.map fun x => x.f1.length).take (i + 1)).sum = ((files.map fun x => x.f1.length).take i).sum + (files.getD i z).f1.length := by
  rw [sum_take _ _ (by rw [List.length_map]; exact hi)]
  simp [List.getD_eq_getElem?_getD, List.getElem?_eq_getElem hi]
theorem named_r (s : ByteArray) : (decide ((0 : Int) < (s.size : Int)) && decide ((s.size : Int) ≤ 40)) = namedB s := by
  unfold namedB
  congr 1 <;> (rw [decide_eq_decide]; omega)
end
namespace GRef0_
theorem find_ref (Af : Option Addr) (cf : Nat) (files : List S38) (most fuse : Int) (down : Bool) (nm : ByteArray) (w : World) (hr : Kd.C k38 w Af files.length files) (hcf : files.length ≤ cf) (hlf : files.length ≤ 1000000) :
    Calls Tryz.prog 60 #[.agg #[.slice Af files.length cf, .int .i64 most, .int .i64 fuse, .bool down], .string nm] w fun e w' => e = .returned (.int .i64 (findR nm files 0)) ∧ Below w.heap.size w w' := by
 refine gw_start (N := 22) (vs := [.agg #[.slice Af files.length cf, J most, J fuse, .bool down], .string nm]) Tryz.func60 rfl rfl (by simp) fun a HF HO => ?_
 replace HO : Own w w [] := HO
 refine gR fun K1 hK1 => ?_
 refine gw_new HF HO (want_none rfl) rfl (by decide) (op_box rfl (HF.ev rfl)) ?_
 intro g2 _ w4 H5 O6; clear HF HO
 have O7 : Own w w4 [Bk g2 [.slice Af files.length cf, J most, J fuse, .bool down] 34] := O6
 clear O6
 refine Vc H5 fun _ H9 => ?_
 refine gE hK1 ?_
 refine gw_seq fun K10 hK10 => ?_
 refine gR fun K11 hK11 => ?_
 refine Vc H9 fun _ H13 => ?_
 refine gE hK11 ?_
 clear H5 H9
 refine wp_block ?_
 refine gw_loop (fun m_ a_ w_ => ∃ (i : Int), Fr 22 a_ [(5, J i), (1, .string nm), (2, .pointer (some ⟨g2, 0, none⟩))] ∧ Own w w_ [Bk g2 [.slice Af files.length cf, J most, J fuse, .bool down] 34] ∧ (0 ≤ i ∧ i ≤ files.length) ∧ (findR nm (files.drop i.toNat) i = findR nm files 0) ∧ m_ = (files.length - i.toNat)) ((files.length - (0 : Int).toNat)) ?_ ?_
 ·
  refine ⟨0, (H13.pick (t := 5) rfl (H13.pick (t := 1) rfl (H13.pick (t := 2) rfl H13.nil))), O7.sel [0] (by decide), ?_, ?_, rfl⟩
  ·
   omega
  simp
 rintro m15 _ w17 ⟨i, H18, O19, hi, hR, hm20⟩
 refine gw_seq fun K21 hK21 => ?_
 refine gR fun K22 hK22 => ?_
 refine Vm H18 fun _ H24 => ?_
 refine Vf H24 (gwfld34_0 _ _) fun _ H26 => ?_
 refine Vl H26 gwagg32 (O19.get 0 rfl) fun _ H28 => ?_
 refine V H28 (op_len Tryz.underlying32 rfl (H28.ev rfl)) fun _ H30 => ?_
 refine V H30 (op_lss rfl (H30.ev rfl) (H30.ev rfl)) fun _ H32 => ?_
 refine gE hK22 ?_
 clear H18 H24 H26 H28 H30
 refine gw_cond H32 rfl (fun hb33 => ?_) (fun hb33 => ?_)
 ·
  have H34 := H32.subst_ (d := 10) (b := true) rfl hb33
  clear H32
  (try simp only [decide_eq_true_eq] at hb33)
  refine gS hK21 ?_
  refine gw_seq fun K35 hK35 => ?_
  refine wp_block ?_
  refine gR fun K36 hK36 => ?_
  refine Vf H34 (gwfld34_0 _ _) fun _ H38 => ?_
  refine Vl H38 gwagg32 (O19.get 0 rfl) fun _ H40 => ?_
  refine Vm H40 fun _ H42 => ?_
  clear H34 H38 H40
  obtain ⟨ad43, cs46, hA44, hl47, hK48, hc45⟩ := Kd.C_get hr z38 i (by omega) (by omega)
  obtain ⟨A49, c50, rfl, hl51, hC52⟩ := k38_open hK48
  clear hl47
  refine V H42 (op_index Tryz.underlying32 gwsiz38 rfl (H42.ev rfl) (H42.ev rfl) hA44 (⟨by omega, by omega⟩)) fun _ H54 => ?_
  refine V H54 (op_field (gwflda38_0 _) rfl (H54.ev rfl)) fun _ H56 => ?_
  refine V H56 (op_load1 gwagg9 rfl (H56.ev rfl) ((cells0 O19 hc45 0 _ rfl))) fun _ H58 => ?_
  refine Vm H58 fun _ H60 => ?_
  refine V H60 (op_eqs rfl (H60.ev rfl) (H60.ev rfl)) fun _ H62 => ?_
  refine gE hK36 ?_
  clear H42 H54 H56 H58 H60
  refine gw_cond H62 rfl (fun hb63 => ?_) (fun hb63 => ?_)
  ·
   have H64 := H62.subst_ (d := 20) (b := true) rfl hb63
   clear H62
   (try simp only [beq_iff_eq, beq_eq_false_iff_ne, ne_eq] at hb63)
   have h20 := hb63
   refine gR fun K65 hK65 => ?_
   refine Vm H64 fun _ H67 => ?_
   refine Va H67 fun _ H69 => ?_
   refine gE hK65 ?_
   refine wp_ret ?_
   clear H64 H67
   refine gw_blr ?_
   refine gw_thr ?_
   refine gw_thr ?_
   refine gw_blr ?_
   refine gw_thr ?_
   refine gw_ret1 H69 rfl rfl ?_
   exact ⟨by rw [← hR, findR_at z38 (show i.toNat < files.length by omega)]; generalize files.getD i.toNat z38 = x_ at h20 ⊢; simp [h20], O19.below⟩
  have H70 := H62.subst_ (d := 20) (b := false) rfl hb63
  clear H62
  (try simp only [beq_iff_eq, beq_eq_false_iff_ne, ne_eq] at hb63)
  have h20 := hb63
  refine wp_skip ?_
  refine gw_blk ?_
  refine gw_nx (hK35 _ _ ?_)
  refine wp_region_lit ?_
  refine Vm H70 fun _ H72 => ?_
  refine V H72 (op_add rfl (H72.ev rfl) (ev_c _ _) (by omega)) fun _ H74 => ?_
  refine Va H74 fun _ H76 => ?_
  clear H70 H72 H74
  refine wpList_nil ?_
  refine gw_nx ⟨_, ?_, i + 1, (H76.pick (t := 5) rfl (H76.pick (t := 1) rfl (H76.pick (t := 2) rfl H76.nil))), O19.sel [0] (by decide), ?_, ?_, rfl⟩
  ·
   rw [hm20]; omega
  ·
   omega
  rw [← hR, findR_at z38 (show i.toNat < files.length by omega), show (i + 1).toNat = i.toNat + 1 by omega]; generalize files.getD i.toNat z38 = x_ at h20 ⊢; simp [h20]
 have H77 := H32.subst_ (d := 10) (b := false) rfl hb33
 clear H32
 (try simp only [decide_eq_false_iff_not, Int.not_lt] at hb33)
 refine wp_exit ?_
 refine gw_thx ?_
 refine gw_thx ?_
 refine gw_in ?_
 refine gw_nx (hK10 _ _ ?_)
 refine gR fun K78 hK78 => ?_
 refine Vc H77 fun _ H80 => ?_
 refine gE hK78 ?_
 refine wp_ret ?_
 clear H77
 refine gw_ret1 H80 rfl rfl ?_
 exact ⟨by rw [← hR, List.drop_eq_nil_of_le (by omega)]; rfl, O19.below⟩
theorem used_ref (Af : Option Addr) (cf : Nat) (files : List S38) (most fuse : Int) (down : Bool) (w : World) (hr : Kd.C k38 w Af files.length files) (hcf : files.length ≤ cf) (hlf : files.length ≤ 1000000) (hus : (files.map fun x => x.f1.length).sum ≤ 9223372036854775807) :
    Calls Tryz.prog 62 #[.agg #[.slice Af files.length cf, .int .i64 most, .int .i64 fuse, .bool down]] w fun e w' => e = .returned (.int .i64 ((files.map fun x => x.f1.length).sum : Nat)) ∧ Below w.heap.size w w' := by
 refine gw_start (N := 22) (vs := [.agg #[.slice Af files.length cf, J most, J fuse, .bool down]]) Tryz.func62 rfl rfl (by simp) fun a HF HO => ?_
 replace HO : Own w w [] := HO
 refine gR fun K1 hK1 => ?_
 refine gw_new HF HO (want_none rfl) rfl (by decide) (op_box rfl (HF.ev rfl)) ?_
 intro g2 _ w4 H5 O6; clear HF HO
 have O7 : Own w w4 [Bk g2 [.slice Af files.length cf, J most, J fuse, .bool down] 34] := O6
 clear O6
 refine Vc H5 fun _ H9 => ?_
 refine gE hK1 ?_
 refine gR fun K10 hK10 => ?_
 refine Vc H9 fun _ H12 => ?_
 refine gE hK10 ?_
 refine gw_seq fun K13 hK13 => ?_
 refine gR fun K14 hK14 => ?_
 refine Vc H12 fun _ H16 => ?_
 refine gE hK14 ?_
 clear H5 H9 H12
 refine wp_block ?_
 refine gw_loop (fun m_ a_ w_ => ∃ (i : Int) (u : Int), Fr 22 a_ [(4, J i), (3, J u), (1, .pointer (some ⟨g2, 0, none⟩)), (2, J 0)] ∧ Own w w_ [Bk g2 [.slice Af files.length cf, J most, J fuse, .bool down] 34] ∧ (0 ≤ i ∧ i ≤ files.length) ∧ (u = (((files.map fun x => x.f1.length).take i.toNat).sum : Nat)) ∧ m_ = (files.length - i.toNat)) ((files.length - (0 : Int).toNat)) ?_ ?_
 ·
  refine ⟨0, 0, (H16.pick (t := 4) rfl (H16.pick (t := 3) rfl (H16.pick (t := 1) rfl (H16.pick (t := 2) rfl H16.nil)))), O7.sel [0] (by decide), ?_, ?_, rfl⟩
  ·
   omega
  simp
 rintro m18 _ w20 ⟨i, u, H21, O22, hi, hu, hm23⟩
 refine gw_seq fun K24 hK24 => ?_
 refine gR fun K25 hK25 => ?_
 refine Vm H21 fun _ H27 => ?_
 refine Vf H27 (gwfld34_0 _ _) fun _ H29 => ?_
 refine Vl H29 gwagg32 (O22.get 0 rfl) fun _ H31 => ?_
 refine V H31 (op_len Tryz.underlying32 rfl (H31.ev rfl)) fun _ H33 => ?_
 refine V H33 (op_lss rfl (H33.ev rfl) (H33.ev rfl)) fun _ H35 => ?_
 refine gE hK25 ?_
 clear H21 H27 H29 H31 H33
 refine gw_cond H35 rfl (fun hb36 => ?_) (fun hb36 => ?_)
 ·
  have H37 := H35.subst_ (d := 9) (b := true) rfl hb36
  clear H35
  (try simp only [decide_eq_true_eq] at hb36)
  refine gS hK24 ?_
  refine gw_seq fun K38 hK38 => ?_
  refine wp_block ?_
  refine wp_region_lit ?_
  refine Vm H37 fun _ H40 => ?_
  refine Vf H40 (gwfld34_0 _ _) fun _ H42 => ?_
  refine Vl H42 gwagg32 (O22.get 0 rfl) fun _ H44 => ?_
  refine Vm H44 fun _ H46 => ?_
  clear H37 H40 H42 H44
  obtain ⟨ad47, cs50, hA48, hl51, hK52, hc49⟩ := Kd.C_get hr z38 i (by omega) (by omega)
  obtain ⟨A53, c54, rfl, hl55, hC56⟩ := k38_open hK52
  clear hl51
  refine V H46 (op_index Tryz.underlying32 gwsiz38 rfl (H46.ev rfl) (H46.ev rfl) hA48 (⟨by omega, by omega⟩)) fun _ H58 => ?_
  refine V H58 (op_field (gwflda38_1 _) rfl (H58.ev rfl)) fun _ H60 => ?_
  refine V H60 (op_load1 gwagg22 rfl (H60.ev rfl) ((cells0 O22 hc49 1 _ rfl))) fun _ H62 => ?_
  refine V H62 (op_len Tryz.underlying22 rfl (H62.ev rfl)) fun _ H64 => ?_
  refine V H64 (op_add rfl (H64.ev rfl) (H64.ev rfl) (by have h1_ := usum z38 (show i.toNat < files.length by omega); have h2_ := sum_le (files.map fun x => x.f1.length) (i.toNat + 1); omega)) fun _ H66 => ?_
  refine Va H66 fun _ H68 => ?_
  clear H46 H58 H60 H62 H64 H66
  refine wpList_nil ?_
  refine gw_blk ?_
  refine gw_nx (hK38 _ _ ?_)
  refine wp_region_lit ?_
  refine Vm H68 fun _ H70 => ?_
  refine V H70 (op_add rfl (H70.ev rfl) (ev_c _ _) (by omega)) fun _ H72 => ?_
  refine Va H72 fun _ H74 => ?_
  clear H68 H70 H72
  refine wpList_nil ?_
  refine gw_nx ⟨_, ?_, i + 1, (u + (((files.getD i.toNat z38).f1.length) : Int)), (H74.pick (t := 4) rfl (H74.pick (t := 3) rfl (H74.pick (t := 1) rfl (H74.pick (t := 2) rfl H74.nil)))), O22.sel [0] (by decide), ?_, ?_, rfl⟩
  ·
   rw [hm23]; omega
  ·
   omega
  rw [show (i + 1).toNat = i.toNat + 1 by omega, usum z38 (show i.toNat < files.length by omega)]; omega
 have H75 := H35.subst_ (d := 9) (b := false) rfl hb36
 clear H35
 (try simp only [decide_eq_false_iff_not, Int.not_lt] at hb36)
 refine wp_exit ?_
 refine gw_thx ?_
 refine gw_thx ?_
 refine gw_in ?_
 refine gw_nx (hK13 _ _ ?_)
 refine gR fun K76 hK76 => ?_
 refine Vm H75 fun _ H78 => ?_
 refine Va H78 fun _ H80 => ?_
 refine gE hK76 ?_
 refine wp_ret ?_
 clear H75 H78
 refine gw_ret1 H80 rfl rfl ?_
 exact ⟨by rw [hu, List.take_of_length_le (by rw [List.length_map]; omega)], O22.below⟩
theorem named_ref (s : ByteArray) (w : World) :
    Calls Tryz.prog 61 #[.string s] w fun e w' => e = .returned (.bool (namedB s)) ∧ Below w.heap.size w w' := by
 refine gw_start (N := 11) (vs := [.string s]) Tryz.func61 rfl rfl (by simp) fun a HF HO => ?_
 replace HO : Own w w [] := HO
 refine gR fun K1 hK1 => ?_
 refine Vc HF ?_
 intro _ H3; clear HF
 refine gE hK1 ?_
 refine gR fun K4 hK4 => ?_
 refine Vm H3 fun _ H6 => ?_
 refine V H6 (op_lens Tryz.underlying9 rfl (H6.ev rfl)) fun _ H8 => ?_
 refine V H8 (op_gtr rfl (H8.ev rfl) (ev_c _ _)) fun _ H10 => ?_
 refine Vm H10 fun _ H12 => ?_
 clear H3 H6 H8 H10
 refine gw_evG H12 rfl rfl rfl rfl (on_t _) rfl (by decide) (fun h_ => (op_move rfl (H12.ev rfl))) ?_
 intro _ H14; clear H12
 refine gw_evG H14 rfl rfl rfl rfl (on_t _) rfl (by decide) (fun h_ => (op_lens Tryz.underlying9 rfl (ev_gv (H14.ev rfl) h_))) ?_
 intro _ H16; clear H14
 refine gw_evG H16 rfl rfl rfl rfl (on_t _) rfl (by decide) (fun h_ => (op_leq rfl (ev_gv (H16.ev rfl) h_) (ev_c _ _))) ?_
 intro _ H18; clear H16
 refine V H18 (op_pick_and rfl (H18.ev rfl) (fun hp_ => (ev_gv (H18.ev rfl) hp_)) (ev_c _ _)) fun _ H20 => ?_
 refine Va H20 fun _ H22 => ?_
 refine gE hK4 ?_
 refine wp_ret ?_
 clear H18 H20
 refine gw_ret1 H22 rfl rfl ?_
 exact ⟨by rw [named_r], HO.below⟩
theorem new_ref (room : Int) (w : World) :
    Calls Tryz.prog 11 #[.int .i64 room] w fun e w' => e = .returned (.agg #[.slice none 0 0, .int .i64 (newD room).most, .int .i64 0, .bool false]) ∧ Below w.heap.size w w' := by
 refine gw_start (N := 7) (vs := [J room]) Tryz.func11 rfl rfl (by simp) fun a HF HO => ?_
 replace HO : Own w w [] := HO
 refine gR fun K1 hK1 => ?_
 refine gw_new HF HO (want_none rfl) rfl (by decide) (op_alloc gwzer34 rfl) ?_
 intro g2 _ w4 H5 O6; clear HF HO
 have O7 : Own w w4 [Bk g2 [.slice none 0 0, J 0, J 0, .bool false] 34] := O6
 clear O6
 refine gE hK1 ?_
 refine gw_seq fun K8 hK8 => ?_
 refine gR fun K9 hK9 => ?_
 refine Vm H5 fun _ H11 => ?_
 refine V H11 (op_lss rfl (H11.ev rfl) (ev_c _ _)) fun _ H13 => ?_
 refine gE hK9 ?_
 clear H5 H11
 refine gw_cond H13 rfl (fun hb14 => ?_) (fun hb14 => ?_)
 ·
  have H15 := H13.subst_ (d := 4) (b := true) rfl hb14
  clear H13
  (try simp only [decide_eq_true_eq] at hb14)
  refine wp_region_lit ?_
  refine Vc H15 fun _ H17 => ?_
  refine gE hK8 ?_
  refine gR fun K18 hK18 => ?_
  refine Vm H17 fun _ H20 => ?_
  refine V H20 (op_build (cells := #[.slice none 0 0, J 0, J 0, .bool false]) rfl (pt_cons (H20.ev rfl) pt_nil) (by kernel_rfl)) fun _ H22 => ?_
  clear H15 H17 H20
  refine gw_setn 0 H22 O7 rfl (want_none rfl) rfl (op_storen gwsiz34 rfl (H22.ev rfl) (H22.ev rfl) (O7.get 0 rfl) rfl (by simp) (by simp [Value.oneCell'])) ?_
  intro _ w25 H24 O26; clear H22 O7
  refine gE hK18 ?_
  refine wp_ret ?_
  refine gw_rets1 H24 rfl (rv_celln H24 rfl gwagg34 gwsiz34 (O26.get 0 rfl) rfl) ?_
  exact ⟨by show _ = Ending.returned (.agg #[.slice none 0 0, J (mx room 0), J 0, .bool false]); unfold mx; split <;> first | rfl | (exfalso; omega), O26.below⟩
 have H27 := H13.subst_ (d := 4) (b := false) rfl hb14
 clear H13
 (try simp only [decide_eq_false_iff_not, Int.not_lt] at hb14)
 refine gS hK8 ?_
 refine gR fun K28 hK28 => ?_
 refine Vm H27 fun _ H30 => ?_
 refine V H30 (op_build (cells := #[.slice none 0 0, J room, J 0, .bool false]) rfl (pt_cons (H30.ev rfl) pt_nil) (by kernel_rfl)) fun _ H32 => ?_
 clear H27 H30
 refine gw_setn 0 H32 O7 rfl (want_none rfl) rfl (op_storen gwsiz34 rfl (H32.ev rfl) (H32.ev rfl) (O7.get 0 rfl) rfl (by simp) (by simp [Value.oneCell'])) ?_
 intro _ w35 H34 O36; clear H32 O7
 refine gE hK28 ?_
 refine wp_ret ?_
 refine gw_rets1 H34 rfl (rv_celln H34 rfl gwagg34 gwsiz34 (O36.get 0 rfl) rfl) ?_
 exact ⟨by show _ = Ending.returned (.agg #[.slice none 0 0, J (mx room 0), J 0, .bool false]); unfold mx; split <;> first | rfl | (exfalso; omega), O36.below⟩
end GRef0_
export GRef0_ (find_ref used_ref named_ref new_ref)
section
open Go.Maps
theorem with_upd {files : List S38} {d : PD} {nm : ByteArray} {x f : S38} {h : PF → PF} (hd : files.map ofS = d.fs) (hw : wfD d) (hgd : getF nm d.fs = some (ofS x)) (hf : ofS f = h (ofS x)) (hn : f.f0 = nm) : (withL f files false).map ofS = updF nm h d.fs := by
  rw [withL_ins f files (by rw [hd]; exact hw.ris), hd, hf, hn]
  exact upd_ins hw.ris hgd (by rw [← hf]; exact hn)
theorem take_one {xs : List Int} {i : Int} (h0 : 0 ≤ i) (h1 : i < xs.length) : xs.take (i + 1).toNat = xs.take i.toNat ++ [xs.getD i.toNat (0 : Int)] := by
  have e : xs.getD i.toNat (0 : Int) = xs[i.toNat]'(by omega) := by simp [List.getD_eq_getElem?_getD, List.getElem?_eq_getElem (show i.toNat < xs.length by omega)]
  rw [e, show (i + 1).toNat = i.toNat + 1 by omega, List.take_succ_eq_append_getElem (by omega)]
section
variable {kd n : Int} {A Z : ByteArray} {y : List Int} {d : PD} {f : PF}
def kstepD (kd : Int) (A Z : ByteArray) (n : Int) (y : List Int) (f : PF) (d : PD) : PD :=
  if kd = 1 then { d with fs := insF ⟨A, [], 0⟩ (delF A d.fs) } else if kd = 2 then { d with fs := updF A (fun f => { f with b := f.b ++ y }) d.fs, used := d.used + y.length } else if kd = 3 then { d with fs := updF A (fun f => { f with sf := f.b.length }) d.fs } else if kd = 4 then renK A Z f d
  else if kd = 5 then { d with fs := updF A (fun f => { f with b := f.b.take n.toNat, sf := mn f.sf n }) d.fs, used := d.used - (f.b.length - n) } else dropD A d
theorem does_down (h : d.down = true) : doesD kd A Z n y d = (d, 70) := by
  unfold doesD
  repeat' split
  · exact create_down h
  · exact with_down h
  · exact with_down h
  · exact rename_down h
  · exact with_down h
  · exact with_down h
theorem does_bad (hd : d.down = false) (h : (kd = 1 ∧ namedB A = false) ∨ (kd = 4 ∧ namedB Z = false)) : doesD kd A Z n y d = (d, 1) := by
  rcases h with ⟨rfl, h⟩ | ⟨rfl, h⟩
  · exact (does1 rfl).trans (create_bad hd h)
  · exact (does4 (by decide) (by decide) (by decide) rfl).trans (rename_bad hd h)
theorem does_none (hd : d.down = false) (h1 : ¬ kd = 1) (h4 : kd = 4 → namedB Z = true) (hg : getF A d.fs = none) : doesD kd A Z n y d = (d, 4) := by
  unfold doesD
  rw [if_neg h1]
  repeat' split
  · exact with_none hd hg
  · exact with_none hd hg
  · rename_i h; exact rename_none hd (h4 h) hg
  · exact with_none hd hg
  · exact with_none hd hg
theorem does_go (hd : d.down = false) (h : (kd = 1 ∧ namedB A = true ∧ getF A d.fs = none) ∨ (¬ kd = 1 ∧ getF A d.fs = some f ∧ (kd = 2 → ¬ d.most - d.used < y.length) ∧ (kd = 4 → namedB Z = true) ∧ (kd = 5 → ¬ (n < 0 ∨ (f.b.length : Int) < n)))) : doesD kd A Z n y d = stepD d (kstepD kd A Z n y f) := by
  rcases h with ⟨rfl, h2, h3⟩ | ⟨h1, h2, h3, h4, h5⟩
  · exact (does1 rfl).trans (create_go hd h2 h3)
  unfold doesD
  rw [if_neg h1]
  have e : ∀ k : PD → PD, (∀ d, k d = kstepD kd A Z n y f d) → stepD d k = stepD d (kstepD kd A Z n y f) := fun k hk => by rw [show k = kstepD kd A Z n y f from funext hk]
  by_cases k2 : kd = 2
  · rw [if_pos k2]
    exact (append_go hd h2 (h3 k2)).trans (e _ fun d => by unfold kstepD; rw [if_neg h1, if_pos k2])
  rw [if_neg k2]
  by_cases k3 : kd = 3
  · rw [if_pos k3]
    exact (sync_go hd h2).trans (e _ fun d => by unfold kstepD; rw [if_neg h1, if_neg k2, if_pos k3])
  rw [if_neg k3]
  by_cases k4 : kd = 4
  · rw [if_pos k4]
    exact (rename_go hd (h4 k4) h2).trans (e _ fun d => by unfold kstepD; rw [if_neg h1, if_neg k2, if_neg k3, if_pos k4])
  rw [if_neg k4]
  by_cases k5 : kd = 5
  · rw [if_pos k5]
    exact (cut_go hd h2 (h5 k5)).trans (e _ fun d => by unfold kstepD; rw [if_neg h1, if_neg k2, if_neg k3, if_neg k4, if_pos k5])
  rw [if_neg k5]
  exact (remove_go hd h2).trans (e _ fun d => by unfold kstepD; rw [if_neg h1, if_neg k2, if_neg k3, if_neg k4, if_neg k5])
theorem ks1 (h : kd = 1) : kstepD kd A Z n y f d = { d with fs := insF ⟨A, [], 0⟩ (delF A d.fs) } := if_pos h
theorem ks2 (h : kd = 2) : kstepD kd A Z n y f d = { d with fs := updF A (fun f => { f with b := f.b ++ y }) d.fs, used := d.used + y.length } := by unfold kstepD; rw [if_neg (by omega), if_pos h]
theorem ks3 (h : kd = 3) : kstepD kd A Z n y f d = { d with fs := updF A (fun f => { f with sf := f.b.length }) d.fs } := by unfold kstepD; rw [if_neg (by omega), if_neg (by omega), if_pos h]
theorem ks5 (h : kd = 5) : kstepD kd A Z n y f d = { d with fs := updF A (fun f => { f with b := f.b.take n.toNat, sf := mn f.sf n }) d.fs, used := d.used - (f.b.length - n) } := by unfold kstepD; rw [if_neg (by omega), if_neg (by omega), if_neg (by omega), if_neg (by omega), if_pos h]
end
end
end Go.Proofs.YtkdahjnmldeklaaGreat.PA
