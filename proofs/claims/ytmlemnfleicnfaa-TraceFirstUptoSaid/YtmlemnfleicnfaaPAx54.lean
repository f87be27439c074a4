/- A Go function of the translation as a plain Lean function, with the proof that the call answers just so. Printed by a program of this session; Lean checks it. -/
import Derived.Test.YtmlemnfleicnfaaPAx0
import Derived.Test.YtmlemnfleicnfaaPAx43
import Derived.Test.YtmlemnfleicnfaaPAx45
import Derived.Test.YtmlemnfleicnfaaPAx48
namespace Go.Proofs.Ytmlemnfleicnfaa.PA
open Go.RowKit Go.Proofs.YtmlemnfleicnfaaW.PrintWords Go.Proofs.YtmlemnfleicnfaaW.PrintLast Go.Proofs.YtmlemnfleicnfaaW.PrintMore
attribute [local go_sem] max2_int min2_int max_two min_two max_three min_three max_four min_four   -- for this text's walks alone
set_option linter.unusedVariables false
set_option linter.unusedSimpArgs false

/-! ### colloquylaw18_TraceFirst: function 14 -/
mutual
def colloquylaw18_TraceFirst.l0 : Nat → List (S70) → List (S70) → Bool → Int → List (S70) → Bool → List (S70) → Int → Int → Option (Bool)
  | 0, _, _, _, _, _, _, _, _, _ => none
  | k + 1, x0, x1, x2, x7, x8, x9, x23, x24, x25 => if x25 < x24 then (if 0 ≤ x25 then (if x25 < (x23.length : Int) then (if x9 = true then (colloquylaw18_TraceFirst.l0 k x0 x1 x2 x7 x8 true x23 x24 (wrap64 (x25 + 1))) else ((trace_Decides.f k ((rd_T70 x23 x25).f0) ((rd_T70 x23 x25).f1) ((rd_T70 x23 x25).f2) ((rd_T70 x23 x25).f3)).bind fun t361 => (colloquylaw18_TraceFirst.l0 k x0 x1 x2 x7 x8 t361 x23 x24 (wrap64 (x25 + 1))))) else (none)) else (none)) else (if x9 = true then ((trace_Verdict.f k 0 x8 x2).bind fun t362 => (if t362 = x7 then (colloquylaw18_TraceFirst.j1 k x0 x2 x7 false) else (colloquylaw18_TraceFirst.j1 k x0 x2 x7 true))) else (if x7 = 5 then ((trace_Verdict.f k 0 x8 x2).bind fun t363 => ((trace_Verdict.f k 0 x1 x2).bind fun t364 => (colloquylaw18_TraceFirst.j1 k x0 x2 x7 (t363 != t364)))) else (colloquylaw18_TraceFirst.j1 k x0 x2 x7 true)))
def colloquylaw18_TraceFirst.j1 : Nat → List (S70) → Bool → Int → Bool → Option (Bool)
  | 0, _, _, _, _ => none
  | k + 1, x0, x2, x7, x59 => if x59 = true then (some false) else ((trace_Verdict.f k 0 x0 (!x2)).bind fun t365 => (if x7 = 5 then (some (t365 == x7)) else ((some (([0, 3, 4, 1, 2] : List Int) : List Int)).bind fun y366 => (if 0 ≤ x7 then (if x7 < (y366.length : Int) then (some (t365 == (rd y366 x7))) else (none)) else (none)))))
end
def colloquylaw18_TraceFirst.f (k : Nat) (l0 : List (S70)) (l1 : List (S70)) (a2 : Bool) : Option (Bool) := (colloquylaw18_alive.f k).bind fun t348 => (if t348 = true then ((trace_Verdict.f k 0 l0 a2).bind fun t349 => ((some (([] : List (S70)) : List (S70))).bind fun y350 => (if y350.length + l0.length < 3518437208883 then ((some (y350 ++ l0 : List (S70))).bind fun y353 => (if y353.length + l1.length < 3518437208883 then (colloquylaw18_TraceFirst.l0 k l0 l1 a2 t349 (y353 ++ l1) false l0 (l0.length : Int) 0) else (none))) else (none)))) else (some false))
theorem colloquylaw18_TraceFirst.mono_l : ∀ k, (∀ y0 y1 y2 y3 y4 y5 y6 y7 y8, LeO (colloquylaw18_TraceFirst.l0 k y0 y1 y2 y3 y4 y5 y6 y7 y8) (colloquylaw18_TraceFirst.l0 (k + 1) y0 y1 y2 y3 y4 y5 y6 y7 y8)) ∧ (∀ y0 y1 y2 y3, LeO (colloquylaw18_TraceFirst.j1 k y0 y1 y2 y3) (colloquylaw18_TraceFirst.j1 (k + 1) y0 y1 y2 y3))
  | 0 => ⟨fun _ _ _ _ _ _ _ _ _ r h => by simp [colloquylaw18_TraceFirst.l0] at h, fun _ _ _ _ r h => by simp [colloquylaw18_TraceFirst.j1] at h⟩
  | k + 1 => by
    obtain ⟨ih0, ih1⟩ := colloquylaw18_TraceFirst.mono_l k
    refine ⟨?_, ?_⟩
    · intro y0 y1 y2 y3 y4 y5 y6 y7 y8
      unfold colloquylaw18_TraceFirst.l0
      repeat' first
      | (with_reducible exact ih0 _ _ _ _ _ _ _ _ _)
      | (with_reducible exact ih1 _ _ _ _)
      | (with_reducible exact colloquylaw18_alive.mono _)
      | (with_reducible exact trace_Decides.mono _ _ _ _ _)
      | (with_reducible exact trace_Verdict.mono _ _ _ _)
      | (with_reducible exact LeO.refl _)
      | (with_reducible exact LeO.none _)
      | (with_reducible refine LeO.ite ?_ ?_)
      | (with_reducible refine LeO.bind ?_ (fun _ => ?_))
      | exact ih0 _ _ _ _ _ _ _ _ _
      | exact ih1 _ _ _ _
      | exact colloquylaw18_alive.mono _
      | exact trace_Decides.mono _ _ _ _ _
      | exact trace_Verdict.mono _ _ _ _
      | exact LeO.none _
      | refine LeO.ite ?_ ?_
      | refine LeO.bind ?_ (fun _ => ?_)
    · intro y0 y1 y2 y3
      unfold colloquylaw18_TraceFirst.j1
      repeat' first
      | (with_reducible exact ih0 _ _ _ _ _ _ _ _ _)
      | (with_reducible exact ih1 _ _ _ _)
      | (with_reducible exact colloquylaw18_alive.mono _)
      | (with_reducible exact trace_Decides.mono _ _ _ _ _)
      | (with_reducible exact trace_Verdict.mono _ _ _ _)
      | (with_reducible exact LeO.refl _)
      | (with_reducible exact LeO.none _)
      | (with_reducible refine LeO.ite ?_ ?_)
      | (with_reducible refine LeO.bind ?_ (fun _ => ?_))
      | exact ih0 _ _ _ _ _ _ _ _ _
      | exact ih1 _ _ _ _
      | exact colloquylaw18_alive.mono _
      | exact trace_Decides.mono _ _ _ _ _
      | exact trace_Verdict.mono _ _ _ _
      | exact LeO.none _
      | refine LeO.ite ?_ ?_
      | refine LeO.bind ?_ (fun _ => ?_)
theorem colloquylaw18_TraceFirst.mono : ∀ a0 a1 a2 k, LeO (colloquylaw18_TraceFirst.f k a0 a1 a2) (colloquylaw18_TraceFirst.f (k + 1) a0 a1 a2) := by
  intro a0 a1 a2 k
  obtain ⟨ih0, ih1⟩ := colloquylaw18_TraceFirst.mono_l k
  unfold colloquylaw18_TraceFirst.f
  repeat' first
      | (with_reducible exact ih0 _ _ _ _ _ _ _ _ _)
      | (with_reducible exact ih1 _ _ _ _)
      | (with_reducible exact colloquylaw18_alive.mono _)
      | (with_reducible exact trace_Decides.mono _ _ _ _ _)
      | (with_reducible exact trace_Verdict.mono _ _ _ _)
      | (with_reducible exact LeO.refl _)
      | (with_reducible exact LeO.none _)
      | (with_reducible refine LeO.ite ?_ ?_)
      | (with_reducible refine LeO.bind ?_ (fun _ => ?_))
      | exact ih0 _ _ _ _ _ _ _ _ _
      | exact ih1 _ _ _ _
      | exact colloquylaw18_alive.mono _
      | exact trace_Decides.mono _ _ _ _ _
      | exact trace_Verdict.mono _ _ _ _
      | exact LeO.none _
      | refine LeO.ite ?_ ?_
      | refine LeO.bind ?_ (fun _ => ?_)
set_option maxHeartbeats 8000000 in
set_option maxRecDepth 100000 in
theorem colloquylaw18_TraceFirst.calls (k : Nat) (A0 : Option Addr) (c0 : Nat) (l0 : List (S70)) (A1 : Option Addr) (c1 : Nat) (l1 : List (S70)) (a2 : Bool) (r : Bool) (w : World) (hr0 : Kd.C k70 w A0 l0.length l0) (hc0 : l0.length ≤ c0) (hr1 : Kd.C k70 w A1 l1.length l1) (hc1 : l1.length ≤ c1) (h : colloquylaw18_TraceFirst.f k l0 l1 a2 = some r) :
    Calls Try.prog 14 #[.slice A0 l0.length c0, .slice A1 l1.length c1, .bool a2] w fun e w' => e = .returned (.bool r) ∧ Below w.heap.size w w' := by
  have hu70 := Try.underlying70
  have HR0 := Aside0.mk hr0
  have HC0 := Aside0.mk hc0
  clear hr0 hc0
  have HR1 := Aside0.mk hr1
  have HC1 := Aside0.mk hc1
  clear hr1 hc1
  have HB := Aside0.mk (Below.refl w.heap.size w)
  have H : ((colloquylaw18_alive.f k).bind fun t348 => (if t348 = true then ((trace_Verdict.f k 0 l0 a2).bind fun t349 => ((some (([] : List (S70)) : List (S70))).bind fun y350 => (if y350.length + l0.length < 3518437208883 then ((some (y350 ++ l0 : List (S70))).bind fun y353 => (if y353.length + l1.length < 3518437208883 then (colloquylaw18_TraceFirst.l0 k l0 l1 a2 t349 (y353 ++ l1) false l0 (l0.length : Int) 0) else (none))) else (none)))) else (some false))) = some r := h
  clear h
  replace H := Option.bind_eq_some_iff.mp H
  obtain ⟨t348, A40, H⟩ := H
  replace H : (if t348 = true then ((trace_Verdict.f k 0 l0 a2).bind fun t349 => ((some (([] : List (S70)) : List (S70))).bind fun y350 => (if y350.length + l0.length < 3518437208883 then ((some (y350 ++ l0 : List (S70))).bind fun y353 => (if y353.length + l1.length < 3518437208883 then (colloquylaw18_TraceFirst.l0 k l0 l1 a2 t349 (y353 ++ l1) false l0 (l0.length : Int) 0) else (none))) else (none)))) else (some false)) = some r := H
  have A4 := Aside0.mk A40
  clear A40
  by_cases c5 : t348 = true
  · subst c5
    have H1 : ((trace_Verdict.f k 0 l0 a2).bind fun t349 => ((some (([] : List (S70)) : List (S70))).bind fun y350 => (if y350.length + l0.length < 3518437208883 then ((some (y350 ++ l0 : List (S70))).bind fun y353 => (if y353.length + l1.length < 3518437208883 then (colloquylaw18_TraceFirst.l0 k l0 l1 a2 t349 (y353 ++ l1) false l0 (l0.length : Int) 0) else (none))) else (none)))) = some r := by rw [if_pos rfl] at H; exact H
    clear H
    have H := H1
    clear H1
    replace H := Option.bind_eq_some_iff.mp H
    obtain ⟨t349, A60, H⟩ := H
    replace H : ((some (([] : List (S70)) : List (S70))).bind fun y350 => (if y350.length + l0.length < 3518437208883 then ((some (y350 ++ l0 : List (S70))).bind fun y353 => (if y353.length + l1.length < 3518437208883 then (colloquylaw18_TraceFirst.l0 k l0 l1 a2 t349 (y353 ++ l1) false l0 (l0.length : Int) 0) else (none))) else (none))) = some r := H
    have A6 := Aside0.mk A60
    clear A60
    obtain ⟨y350, hy350⟩ : ∃ y_ : List (S70), y_ = (([] : List (S70))) := ⟨_, rfl⟩
    replace H : (if y350.length + l0.length < 3518437208883 then ((some (y350 ++ l0 : List (S70))).bind fun y353 => (if y353.length + l1.length < 3518437208883 then (colloquylaw18_TraceFirst.l0 k l0 l1 a2 t349 (y353 ++ l1) false l0 (l0.length : Int) 0) else (none))) else (none)) = some r := by first | (rw [hy350]; with_reducible exact H) | (have H2_ := (Option.bind_some _ _).symm.trans H; rw [hy350]; with_reducible exact H2_) | (have H2_ := (Option.bind_some _ _).symm.trans H; with_reducible exact H2_) | with_reducible exact H | (rw [hy350]; exact H) | exact H
    have Ny350 := Aside0.mk hy350
    clear hy350
    by_cases c7 : y350.length + l0.length < 3518437208883
    · rw [if_pos c7] at H
      have LMc7 := Aside0.mk c7
      clear c7
      obtain ⟨y353, hy353⟩ : ∃ y_ : List (S70), y_ = (y350 ++ l0) := ⟨_, rfl⟩
      replace H : (if y353.length + l1.length < 3518437208883 then (colloquylaw18_TraceFirst.l0 k l0 l1 a2 t349 (y353 ++ l1) false l0 (l0.length : Int) 0) else (none)) = some r := by first | (rw [hy353]; with_reducible exact H) | (have H2_ := (Option.bind_some _ _).symm.trans H; rw [hy353]; with_reducible exact H2_) | (have H2_ := (Option.bind_some _ _).symm.trans H; with_reducible exact H2_) | with_reducible exact H | (rw [hy353]; exact H) | exact H
      have Ny353 := Aside0.mk hy353
      clear hy353
      by_cases c8 : y353.length + l1.length < 3518437208883
      · rw [if_pos c8] at H
        have LMc8 := Aside0.mk c8
        clear c8
        obtain ⟨y356, hy356⟩ : ∃ y_ : List (S70), y_ = (y353 ++ l1) := ⟨_, rfl⟩
        replace H : (colloquylaw18_TraceFirst.l0 k l0 l1 a2 t349 y356 false l0 (l0.length : Int) 0) = some r := by first | (rw [hy356]; with_reducible exact H) | (have H2_ := (Option.bind_some _ _).symm.trans H; rw [hy356]; with_reducible exact H2_) | (have H2_ := (Option.bind_some _ _).symm.trans H; with_reducible exact H2_) | with_reducible exact H | (rw [hy356]; exact H) | exact H
        have Ny356 := Aside0.mk hy356
        clear hy356
        have H' := Aside0.mk H
        clear H
        go_enter Try.func14, Try.ntmps14
        go_wp2_with (first | ((with_reducible refine gate_callee (f := 48) rfl ?_); refine goesL_ (some 13) rfl rfl Try.func48 (by kernel_rfl) rfl #[] rfl (by (try simp only [List.map_toArray, List.map_cons, List.map_nil]); first | done | rfl | (simp only [List.length_drop, List.length_take]; rfl)) ?_; (with_reducible refine (colloquylaw18_alive.calls k  true _ A4.out).mono ?_); rintro e w9 ⟨rfl, hb⟩; refine ⟨_, rfl, ?_⟩; have n0_ := Aside0.mk (below_step (by repeat (first | (with_reducible first | exact HB.out | apply below_alloc | apply pw_below_drewN | apply below_drew1) | exact HB.out)) hb); clear HB; have HB := n0_; clear n0_; (try clear hb); (try clear hb2); (try clear hk); (try clear hi)) | ((with_reducible refine gate_callee (f := 49) rfl ?_); refine goesL_ (some 17) rfl rfl Try.func49 (by kernel_rfl) rfl #[.int .i64 0, .slice A0 l0.length c0, .bool a2] rfl (by (try simp only [List.map_toArray, List.map_cons, List.map_nil]); first | done | rfl | (simp only [List.length_drop, List.length_take]; rfl)) ?_; (with_reducible refine (trace_Verdict.calls k 0 _ _ l0 a2 t349 _ ?side1 ?side2 A6.out).mono ?_); (case side1 => repeat (first | exact (Kd.C_below HR0.out HB.out) | (with_reducible refine Kd.C_alloc ?_ _) | (with_reducible refine Kd.C_drewN ?_ _) | (with_reducible refine Kd.C_drew ?_))); (case side2 => exact HC0.out); rintro e w10 ⟨rfl, hb⟩; refine ⟨_, rfl, ?_⟩; have n0_ := Aside0.mk (below_step (by repeat (first | (with_reducible first | exact HB.out | apply below_alloc | apply pw_below_drewN | apply below_drew1) | exact HB.out)) hb); clear HB; have HB := n0_; clear n0_; (try clear hb); (try clear hb2); (try clear hk); (try clear hi)) | ((with_reducible refine gate_dst (N := 18) rfl ?_); refine Kd.R_lit k70 _ 70 ?hg (N := 18) ?hd (xs := ([] : List (S70))) (inner := []) (ok := fun _ => True) (okp := fun _ => True) ?hr ?hp (fun _ hk => hk) trivial (Below.refl _ _) (Nat.le_refl _) (by simp) ?_; (case hd => rfl); (case hg => rfl); (case hr => first | (go_simp; done) | (go_simp; rfl)); (case hp => exact (Reps.none _ _)); intro v351 w11 ho12 hb hg_ hnew_; clear hg_ hnew_; (first | rw [← Ny350.out] at ho12 | (simp only [Int.reduceToNat] at ho12; rw [← Ny350.out] at ho12)); have n0_ := Aside0.mk (Kd.R_lower ho12 (below_size (by repeat (first | (with_reducible first | exact HB.out | apply below_alloc | apply pw_below_drewN | apply below_drew1) | exact HB.out)))); have n1_ := Aside0.mk (below_step (by repeat (first | (with_reducible first | exact HB.out | apply below_alloc | apply pw_below_drewN | apply below_drew1) | exact HB.out)) hb); clear HB; have HO352 := n0_; have HB := n1_; clear n0_ n1_; clear hb ho12) | ((with_reducible refine gate_builtin (b := .append) (xs := #[.tmp 18, .tmp 19]) rfl ?_); at_builtin; refine Kd.R_append_rows k70 (w0 := w) w.heap.size rfl (.tmp 18) (.tmp 19) 66 70 (.agg #[(.int .i64 0), (.int .i64 0), (.string ⟨#[]⟩), (.int .i64 0)]) 40 rfl Try.underlying66 info70 rfl (by decide) (by omega) v351 y350 l0 _ _ _ (fun _ => True) (fun _ => False) rfl rfl ?aO ?aR (fun _ _ h => h) (fun _ h => h.elim) ?aF ?aB ?aS ?aL ?_; (case aR => repeat (first | exact (Kd.C_below HR0.out HB.out) | (with_reducible refine Kd.C_alloc ?_ _) | (with_reducible refine Kd.C_drewN ?_ _) | (with_reducible refine Kd.C_drew ?_))); (case aB => exact (by repeat (first | (with_reducible first | exact HB.out | apply below_alloc | apply pw_below_drewN | apply below_drew1) | exact HB.out))); (case aF => exact (fun _ _ => trivial)); (case aO => exact (by (with_reducible repeat (first | apply Kd.R_alloc | apply Kd.R_drewN | apply Kd.R_drew)); exact HO352.out)); (case aS => exact (below_size (by repeat (first | (with_reducible first | exact HB.out | apply below_alloc | apply pw_below_drewN | apply below_drew1) | exact HB.out)))); (case aL => have := LMc7.out; omega); intro v354 w13 ho hb hg hat; rw [← Ny353.out] at ho; have n0_ := Aside0.mk (hb); have n1_ := Aside0.mk (ho); clear HB; clear HO352; have HB := n0_; have HO355 := n1_; clear n0_ n1_; clear ho hb hg hat) | ((with_reducible refine gate_builtin (b := .append) (xs := #[.tmp 20, .tmp 21]) rfl ?_); at_builtin; refine Kd.R_append_rows k70 (w0 := w) w.heap.size rfl (.tmp 20) (.tmp 21) 66 70 (.agg #[(.int .i64 0), (.int .i64 0), (.string ⟨#[]⟩), (.int .i64 0)]) 40 rfl Try.underlying66 info70 rfl (by decide) (by omega) v354 y353 l1 _ _ _ (fun _ => True) (fun _ => False) rfl rfl ?aO ?aR (fun _ _ h => h) (fun _ h => h.elim) ?aF ?aB ?aS ?aL ?_; (case aR => repeat (first | exact (Kd.C_below HR1.out HB.out) | (with_reducible refine Kd.C_alloc ?_ _) | (with_reducible refine Kd.C_drewN ?_ _) | (with_reducible refine Kd.C_drew ?_))); (case aB => exact (by repeat (first | (with_reducible first | exact HB.out | apply below_alloc | apply pw_below_drewN | apply below_drew1) | exact HB.out))); (case aF => exact (fun _ _ => trivial)); (case aO => exact (by (with_reducible repeat (first | apply Kd.R_alloc | apply Kd.R_drewN | apply Kd.R_drew)); exact HO355.out)); (case aS => exact (below_size (by repeat (first | (with_reducible first | exact HB.out | apply below_alloc | apply pw_below_drewN | apply below_drew1) | exact HB.out)))); (case aL => have := LMc8.out; omega); intro v357 w14 ho hb hg hat; rw [← Ny356.out] at ho; have n0_ := Aside0.mk (hb); have n1_ := Aside0.mk (ho); clear HB; clear HO355; have HB := n0_; have HO358 := n1_; clear n0_ n1_; clear ho hb hg hat))
        go_loopg [9, 25] k (fun kq v9 v25 w' => ∃ (x9_1 : Bool) (x25_1 : Int), v9 = .bool x9_1 ∧ v25 = .int .i64 x25_1 ∧ Aside0 (colloquylaw18_TraceFirst.l0 kq l0 l1 a2 t349 y356 x9_1 l0 (l0.length : Int) x25_1 = some r) ∧ Aside0 (kq ≤ k) ∧ Aside0 (Kd.R k70 70 w' w.heap.size (fun _ => True) v357 y356) ∧ Aside0 (Below w.heap.size w w'))
        case atStart => exact ⟨(false), (0), (by first | rfl | (simp; done) | (simp [*]; done)), (by first | rfl | (simp; done) | (simp [*]; done)), H', ⟨Nat.le_refl _⟩, ⟨by (with_reducible repeat (first | apply Kd.R_alloc | apply Kd.R_drewN | apply Kd.R_drew)); exact HO358.out⟩, ⟨by repeat (first | (with_reducible first | exact HB.out | apply below_alloc | apply pw_below_drewN | apply below_drew1) | exact HB.out)⟩⟩
        case round =>
          clear H'
          try clear c1
          try clear p2
          try clear c4
          try clear c5
          try clear c7
          try clear c8
          try clear c14
          obtain ⟨x9_1, x25_1, rfl, rfl, HA, HK1, HO_8, HB⟩ := hrel
          cases gk with
          | zero => exact absurd HA.out (by simp [colloquylaw18_TraceFirst.l0])
          | succ k1 =>
            have H := HA.out
            clear HA
            simp only [colloquylaw18_TraceFirst.l0] at H
            by_cases c15 : x25_1 < (l0.length : Int)
            · rw [if_pos c15] at H
              have c15b0 : decide (x25_1 < (l0.length : Int)) = true := decide_eq_true c15
              clear c15
              by_cases c16 : 0 ≤ x25_1
              · rw [if_pos c16] at H
                have c16b0 : decide (0 ≤ x25_1) = true := decide_eq_true c16
                clear c16
                by_cases c17 : x25_1 < (l0.length : Int)
                · rw [if_pos c17] at H
                  have c17b0 : decide (x25_1 < (l0.length : Int)) = true := decide_eq_true c17
                  clear c17
                  by_cases c18 : x9_1 = true
                  · subst c18
                    have H1 : (colloquylaw18_TraceFirst.l0 k1 l0 l1 a2 t349 y356 true l0 (l0.length : Int) (wrap64 (x25_1 + 1))) = some r := by rw [if_pos rfl] at H; exact H
                    clear H
                    have H := H1
                    clear H1
                    have H' := Aside0.mk H
                    clear H
                    have p359 : 0 ≤ (x25_1 : Int) := of_decide_eq_true (by first | (with_reducible assumption) | assumption)
                    have q359 : x25_1 < (l0.length : Int) := of_decide_eq_true (by first | (with_reducible assumption) | assumption)
                    obtain ⟨ad359, e359, hx359_0, hx359_1, hx359_2, hx359_3⟩ := at_T70 HR0.out x25_1 p359 q359
                    cases e359
                    replace hx359_0 := (HB.out.cell (World.block_lt_of_cell? w _ hx359_0)).trans hx359_0
                    replace hx359_1 := (HB.out.cell (World.block_lt_of_cell? w _ hx359_1)).trans hx359_1
                    replace hx359_2 := (HB.out.cell (World.block_lt_of_cell? w _ hx359_2)).trans hx359_2
                    replace hx359_3 := (HB.out.cell (World.block_lt_of_cell? w _ hx359_3)).trans hx359_3
                    replace p359 := eq_true p359
                    replace q359 := eq_true q359
                    go_wp2_with (first | ((with_reducible refine gate_dst (N := 11) rfl ?_); refine box_event ?hg (N := 11) ?hd (cs := #[.int .i64 0, .int .i64 0, .string (⟨#[]⟩ : ByteArray), .int .i64 0]) (t := 70) ?hr ?_; (case hd => rfl); (case hg => rfl); (case hr => first | (go_simp; done) | (go_simp; rfl)); intro gb360 hg w19 hbox hb; have n0_ := Aside0.mk (Kd.R_below (Kd.R_elderB (by (with_reducible repeat (first | apply Kd.R_alloc | apply Kd.R_drewN | apply Kd.R_drew)); exact HO_8.out) gb360 (Nat.le_of_eq hg.symm)) hb); have n1_ := Aside0.mk (below_step (by repeat (first | (with_reducible first | exact HB.out | apply below_alloc | apply pw_below_drewN | apply below_drew1) | exact HB.out)) hb); have n2_ := Aside0.mk (hbox); have n3_ := Aside0.mk ((by rw [hg]; exact (below_size (by repeat (first | (with_reducible first | exact HB.out | apply below_alloc | apply pw_below_drewN | apply below_drew1) | exact HB.out))) : w.heap.size ≤ gb360)); have n4_ := Aside0.mk ((by rw [hg]; exact (below_size (by repeat (first | (with_reducible first | exact HB.out | apply below_alloc | apply pw_below_drewN | apply below_drew1) | exact HB.out))) : w.heap.size ≤ gb360)); clear HO_8; clear HB; have HO_8 := n0_; have HB := n1_; have BK360 := n2_; have GW360 := n3_; have GE360 := n4_; clear n0_ n1_ n2_ n3_ n4_; clear hb hbox hg; have hcz20_0 : w19.cell? ⟨gb360, 0, none⟩ = some (.int .i64 0) := (blk_cell BK360.out 0).trans rfl; have hcz20_1 : w19.cell? ⟨gb360, 1, none⟩ = some (.int .i64 0) := (blk_cell BK360.out 1).trans rfl; have hcz20_2 : w19.cell? ⟨gb360, 2, none⟩ = some (.string (⟨#[]⟩ : ByteArray)) := (blk_cell BK360.out 2).trans rfl; have hcz20_3 : w19.cell? ⟨gb360, 3, none⟩ = some (.int .i64 0) := (blk_cell BK360.out 3).trans rfl; have hfz20_0 := blk_frozen BK360.out 0; have hfz20_1 := blk_frozen BK360.out 1; have hfz20_2 := blk_frozen BK360.out 2; have hfz20_3 := blk_frozen BK360.out 3))
                    go_roundg k1
                    case measure => have := HK1.out; omega
                    case rel => exact ⟨(true), (wrap64 (x25_1 + 1)), (by first | rfl | (simp; done) | (simp [*]; done)), (by first | rfl | (simp; done) | (simp [*]; done)), H', ⟨by have := HK1.out; omega⟩, ⟨by (with_reducible repeat (first | apply Kd.R_alloc | apply Kd.R_drewN | apply Kd.R_drew)); exact Kd.R_mono (Kd.R_far (p := ⟨gb360, 3, none⟩) (Kd.R_far (p := ⟨gb360, 2, none⟩) (Kd.R_far (p := ⟨gb360, 1, none⟩) (Kd.R_far (p := ⟨gb360, 0, none⟩) (Kd.R_mono HO_8.out (fun k_ hk => (⟨hk, hk.2⟩ : _ ∧ k_ ≠ gb360))) (fun _ hk => hk.2) (.int .i64 ((rd_T70 l0 x25_1).f0))) (fun _ hk => hk.2) (.int .i64 ((rd_T70 l0 x25_1).f1))) (fun _ hk => hk.2) (.string ((rd_T70 l0 x25_1).f2))) (fun _ hk => hk.2) (.int .i64 ((rd_T70 l0 x25_1).f3))) (fun _ hk => trivial)⟩, ⟨by repeat (first | (with_reducible first | exact HB.out | apply below_alloc | apply pw_below_drewN | apply below_drew1 | refine below_set ?_ GE360.out) | exact HB.out)⟩⟩
                  · replace c18 := Bool.eq_false_iff.mpr c18
                    subst c18
                    have H1 : ((trace_Decides.f k1 ((rd_T70 l0 x25_1).f0) ((rd_T70 l0 x25_1).f1) ((rd_T70 l0 x25_1).f2) ((rd_T70 l0 x25_1).f3)).bind fun t361 => (colloquylaw18_TraceFirst.l0 k1 l0 l1 a2 t349 y356 t361 l0 (l0.length : Int) (wrap64 (x25_1 + 1)))) = some r := by rw [if_neg (show ¬ (false = true) by decide)] at H; exact H
                    clear H
                    have H := H1
                    clear H1
                    replace H := Option.bind_eq_some_iff.mp H
                    obtain ⟨t361, A210, H⟩ := H
                    replace H : (colloquylaw18_TraceFirst.l0 k1 l0 l1 a2 t349 y356 t361 l0 (l0.length : Int) (wrap64 (x25_1 + 1))) = some r := H
                    have A21 := Aside0.mk A210
                    clear A210
                    have H' := Aside0.mk H
                    clear H
                    have p359 : 0 ≤ (x25_1 : Int) := of_decide_eq_true (by first | (with_reducible assumption) | assumption)
                    have q359 : x25_1 < (l0.length : Int) := of_decide_eq_true (by first | (with_reducible assumption) | assumption)
                    obtain ⟨ad359, e359, hx359_0, hx359_1, hx359_2, hx359_3⟩ := at_T70 HR0.out x25_1 p359 q359
                    cases e359
                    replace hx359_0 := (HB.out.cell (World.block_lt_of_cell? w _ hx359_0)).trans hx359_0
                    replace hx359_1 := (HB.out.cell (World.block_lt_of_cell? w _ hx359_1)).trans hx359_1
                    replace hx359_2 := (HB.out.cell (World.block_lt_of_cell? w _ hx359_2)).trans hx359_2
                    replace hx359_3 := (HB.out.cell (World.block_lt_of_cell? w _ hx359_3)).trans hx359_3
                    replace p359 := eq_true p359
                    replace q359 := eq_true q359
                    go_wp2_with (first | ((with_reducible refine gate_dst (N := 11) rfl ?_); refine box_event ?hg (N := 11) ?hd (cs := #[.int .i64 0, .int .i64 0, .string (⟨#[]⟩ : ByteArray), .int .i64 0]) (t := 70) ?hr ?_; (case hd => rfl); (case hg => rfl); (case hr => first | (go_simp; done) | (go_simp; rfl)); intro gb360 hg w22 hbox hb; have n0_ := Aside0.mk (Kd.R_below (Kd.R_elderB (by (with_reducible repeat (first | apply Kd.R_alloc | apply Kd.R_drewN | apply Kd.R_drew)); exact HO_8.out) gb360 (Nat.le_of_eq hg.symm)) hb); have n1_ := Aside0.mk (below_step (by repeat (first | (with_reducible first | exact HB.out | apply below_alloc | apply pw_below_drewN | apply below_drew1) | exact HB.out)) hb); have n2_ := Aside0.mk (hbox); have n3_ := Aside0.mk ((by rw [hg]; exact (below_size (by repeat (first | (with_reducible first | exact HB.out | apply below_alloc | apply pw_below_drewN | apply below_drew1) | exact HB.out))) : w.heap.size ≤ gb360)); have n4_ := Aside0.mk ((by rw [hg]; exact (below_size (by repeat (first | (with_reducible first | exact HB.out | apply below_alloc | apply pw_below_drewN | apply below_drew1) | exact HB.out))) : w.heap.size ≤ gb360)); clear HO_8; clear HB; have HO_8 := n0_; have HB := n1_; have BK360 := n2_; have GW360 := n3_; have GE360 := n4_; clear n0_ n1_ n2_ n3_ n4_; clear hb hbox hg; have hcz23_0 : w22.cell? ⟨gb360, 0, none⟩ = some (.int .i64 0) := (blk_cell BK360.out 0).trans rfl; have hcz23_1 : w22.cell? ⟨gb360, 1, none⟩ = some (.int .i64 0) := (blk_cell BK360.out 1).trans rfl; have hcz23_2 : w22.cell? ⟨gb360, 2, none⟩ = some (.string (⟨#[]⟩ : ByteArray)) := (blk_cell BK360.out 2).trans rfl; have hcz23_3 : w22.cell? ⟨gb360, 3, none⟩ = some (.int .i64 0) := (blk_cell BK360.out 3).trans rfl; have hfz23_0 := blk_frozen BK360.out 0; have hfz23_1 := blk_frozen BK360.out 1; have hfz23_2 := blk_frozen BK360.out 2; have hfz23_3 := blk_frozen BK360.out 3) | (go_at_call 51; (with_reducible refine (trace_Decides.calls k1 ((rd_T70 l0 x25_1).f0) ((rd_T70 l0 x25_1).f1) ((rd_T70 l0 x25_1).f2) ((rd_T70 l0 x25_1).f3) t361 _ A21.out).mono ?_); rintro e w24 ⟨rfl, hb⟩; have n0_ := Aside0.mk (Kd.R_below (by (with_reducible repeat (first | apply Kd.R_alloc | apply Kd.R_drewN | apply Kd.R_drew)); exact (Kd.R_mono (Kd.R_far (p := ⟨gb360, 3, none⟩) (Kd.R_far (p := ⟨gb360, 2, none⟩) (Kd.R_far (p := ⟨gb360, 1, none⟩) (Kd.R_far (p := ⟨gb360, 0, none⟩) (Kd.R_mono HO_8.out (fun k_ hk => (⟨hk, hk.2⟩ : _ ∧ k_ ≠ gb360))) (fun _ hk => hk.2) (.int .i64 ((rd_T70 l0 x25_1).f0))) (fun _ hk => hk.2) (.int .i64 ((rd_T70 l0 x25_1).f1))) (fun _ hk => hk.2) (.string ((rd_T70 l0 x25_1).f2))) (fun _ hk => hk.2) (.int .i64 ((rd_T70 l0 x25_1).f3))) (fun _ h_ => h_.1))) hb); have n1_ := Aside0.mk (blk_below (g := gb360) (o := .cells #[.int .i64 ((rd_T70 l0 x25_1).f0), .int .i64 ((rd_T70 l0 x25_1).f1), .string ((rd_T70 l0 x25_1).f2), .int .i64 ((rd_T70 l0 x25_1).f3)] 70 (0, 0)) (by (with_reducible repeat (first | refine blk_drewN ?_ _ | refine blk_drew ?_ | refine blk_alloc ?_ _)); refine blk_put (cs := #[.int .i64 ((rd_T70 l0 x25_1).f0), .int .i64 ((rd_T70 l0 x25_1).f1), .string ((rd_T70 l0 x25_1).f2), .int .i64 0]) ?_ 3 _ rfl; (with_reducible repeat (first | refine blk_drewN ?_ _ | refine blk_drew ?_ | refine blk_alloc ?_ _)); refine blk_put (cs := #[.int .i64 ((rd_T70 l0 x25_1).f0), .int .i64 ((rd_T70 l0 x25_1).f1), .string (⟨#[]⟩ : ByteArray), .int .i64 0]) ?_ 2 _ rfl; (with_reducible repeat (first | refine blk_drewN ?_ _ | refine blk_drew ?_ | refine blk_alloc ?_ _)); refine blk_put (cs := #[.int .i64 ((rd_T70 l0 x25_1).f0), .int .i64 0, .string (⟨#[]⟩ : ByteArray), .int .i64 0]) ?_ 1 _ rfl; (with_reducible repeat (first | refine blk_drewN ?_ _ | refine blk_drew ?_ | refine blk_alloc ?_ _)); refine blk_put (cs := #[.int .i64 0, .int .i64 0, .string (⟨#[]⟩ : ByteArray), .int .i64 0]) ?_ 0 _ rfl; (with_reducible repeat (first | refine blk_drewN ?_ _ | refine blk_drew ?_ | refine blk_alloc ?_ _)); exact BK360.out) hb); have n2_ := Aside0.mk (below_step (by repeat (first | (with_reducible first | exact HB.out | apply below_alloc | apply pw_below_drewN | apply below_drew1 | refine below_set ?_ GE360.out) | exact HB.out)) hb); clear HO_8; clear BK360; clear HB; have HO_8 := n0_; have BK360 := n1_; have HB := n2_; clear n0_ n1_ n2_; (try clear hb); (try clear hb2); (try clear hk); (try clear hi)))
                    go_roundg k1
                    case measure => have := HK1.out; omega
                    case rel => exact ⟨(t361), (wrap64 (x25_1 + 1)), (by first | rfl | (simp; done) | (simp [*]; done)), (by first | rfl | (simp; done) | (simp [*]; done)), H', ⟨by have := HK1.out; omega⟩, ⟨by (with_reducible repeat (first | apply Kd.R_alloc | apply Kd.R_drewN | apply Kd.R_drew)); exact Kd.R_mono HO_8.out (fun _ hk => trivial)⟩, ⟨by repeat (first | (with_reducible first | exact HB.out | apply below_alloc | apply pw_below_drewN | apply below_drew1 | refine below_set ?_ GE360.out) | exact HB.out)⟩⟩
                · rw [if_neg c17] at H
                  exact absurd H (by simp)
              · rw [if_neg c16] at H
                exact absurd H (by simp)
            · rw [if_neg c15] at H
              have c15b0 : decide (x25_1 < (l0.length : Int)) = false := decide_eq_false c15
              clear c15
              have HC25 := Aside0.mk H
              clear H
              go_upto_region 11 with (fail)
              go_cut [59] (fun v59 wc => ∃ (kq : Nat) (x59_24 : Bool), v59 = .bool x59_24 ∧ Aside0 (colloquylaw18_TraceFirst.j1 kq l0 a2 t349 x59_24 = some r) ∧ Aside0 (kq ≤ k1) ∧ Aside0 (Below w.heap.size w wc))
              case first =>
                have H := HC25.out
                clear HC25
                by_cases c26 : x9_1 = true
                · subst c26
                  have H1 : ((trace_Verdict.f k1 0 y356 a2).bind fun t362 => (if t362 = t349 then (colloquylaw18_TraceFirst.j1 k1 l0 a2 t349 false) else (colloquylaw18_TraceFirst.j1 k1 l0 a2 t349 true))) = some r := by rw [if_pos rfl] at H; exact H
                  clear H
                  have H := H1
                  clear H1
                  replace H := Option.bind_eq_some_iff.mp H
                  obtain ⟨t362, A270, H⟩ := H
                  replace H : (if t362 = t349 then (colloquylaw18_TraceFirst.j1 k1 l0 a2 t349 false) else (colloquylaw18_TraceFirst.j1 k1 l0 a2 t349 true)) = some r := H
                  have A27 := Aside0.mk A270
                  clear A270
                  by_cases c28 : t362 = t349
                  · rw [if_pos c28] at H
                    have c28b0 : (t362 == t349) = true := beq_iff_eq.mpr c28
                    have c28b1 : (t362 != t349) = false := bne_eq_false_iff_eq.mpr c28
                    clear c28
                    (first | rw [c28b0] | (simp only [i64_w, i32_w]; rw [c28b0]) | skip)
                    have H' := Aside0.mk H
                    clear H
                    obtain ⟨Ao29, co29, eo29⟩ := Kd.R_slice HO_8.out
                    subst eo29
                    go_wp2_with (first | (go_at_call 49; (with_reducible refine (trace_Verdict.calls k1 0 _ _ y356 a2 t362 _ ?side1 ?side2 A27.out).mono ?_); (case side1 => repeat (first | exact (Kd.R_reads' HO_8.out).2.2 | (with_reducible refine Kd.C_alloc ?_ _) | (with_reducible refine Kd.C_drewN ?_ _) | (with_reducible refine Kd.C_drew ?_))); (case side2 => exact (Kd.R_reads' HO_8.out).2.1); rintro e w30 ⟨rfl, hb⟩; have n0_ := Aside0.mk (Kd.R_below (by (with_reducible repeat (first | apply Kd.R_alloc | apply Kd.R_drewN | apply Kd.R_drew)); exact HO_8.out) hb); have n1_ := Aside0.mk (below_step (by repeat (first | (with_reducible first | exact HB.out | apply below_alloc | apply pw_below_drewN | apply below_drew1) | exact HB.out)) hb); clear HO_8; clear HB; have HO_8 := n0_; have HB := n1_; clear n0_ n1_; (try clear hb); (try clear hb2); (try clear hk); (try clear hi)))
                    go_meet
                    case rel => exact ⟨_, (false), (by first | rfl | (simp; done) | (simp [*]; done)), H', ⟨by have := HK1.out; first | omega | exact Nat.le_refl _⟩, ⟨by repeat (first | (with_reducible first | exact HB.out | apply below_alloc | apply pw_below_drewN | apply below_drew1) | exact HB.out)⟩⟩
                  · rw [if_neg c28] at H
                    have c28b0 : (t362 == t349) = false := beq_eq_false_iff_ne.mpr c28
                    have c28b1 : (t362 != t349) = true := bne_iff_ne.mpr c28
                    (first | rw [c28b0] | (simp only [i64_w, i32_w]; rw [c28b0]) | skip)
                    have H' := Aside0.mk H
                    clear H
                    obtain ⟨Ao31, co31, eo31⟩ := Kd.R_slice HO_8.out
                    subst eo31
                    go_wp2_with (first | (go_at_call 49; (with_reducible refine (trace_Verdict.calls k1 0 _ _ y356 a2 t362 _ ?side1 ?side2 A27.out).mono ?_); (case side1 => repeat (first | exact (Kd.R_reads' HO_8.out).2.2 | (with_reducible refine Kd.C_alloc ?_ _) | (with_reducible refine Kd.C_drewN ?_ _) | (with_reducible refine Kd.C_drew ?_))); (case side2 => exact (Kd.R_reads' HO_8.out).2.1); rintro e w32 ⟨rfl, hb⟩; have n0_ := Aside0.mk (Kd.R_below (by (with_reducible repeat (first | apply Kd.R_alloc | apply Kd.R_drewN | apply Kd.R_drew)); exact HO_8.out) hb); have n1_ := Aside0.mk (below_step (by repeat (first | (with_reducible first | exact HB.out | apply below_alloc | apply pw_below_drewN | apply below_drew1) | exact HB.out)) hb); clear HO_8; clear HB; have HO_8 := n0_; have HB := n1_; clear n0_ n1_; (try clear hb); (try clear hb2); (try clear hk); (try clear hi)))
                    go_meet
                    case rel => exact ⟨_, (true), (by first | rfl | (simp; done) | (simp [*]; done)), H', ⟨by have := HK1.out; first | omega | exact Nat.le_refl _⟩, ⟨by repeat (first | (with_reducible first | exact HB.out | apply below_alloc | apply pw_below_drewN | apply below_drew1) | exact HB.out)⟩⟩
                · replace c26 := Bool.eq_false_iff.mpr c26
                  subst c26
                  have H1 : (if t349 = 5 then ((trace_Verdict.f k1 0 y356 a2).bind fun t363 => ((trace_Verdict.f k1 0 l1 a2).bind fun t364 => (colloquylaw18_TraceFirst.j1 k1 l0 a2 t349 (t363 != t364)))) else (colloquylaw18_TraceFirst.j1 k1 l0 a2 t349 true)) = some r := by rw [if_neg (show ¬ (false = true) by decide)] at H; exact H
                  clear H
                  have H := H1
                  clear H1
                  by_cases c33 : t349 = 5
                  · rw [if_pos c33] at H
                    have c33b0 : (t349 == 5) = true := beq_iff_eq.mpr c33
                    have c33b1 : (t349 != 5) = false := bne_eq_false_iff_eq.mpr c33
                    clear c33
                    replace H := Option.bind_eq_some_iff.mp H
                    obtain ⟨t363, A340, H⟩ := H
                    replace H : ((trace_Verdict.f k1 0 l1 a2).bind fun t364 => (colloquylaw18_TraceFirst.j1 k1 l0 a2 t349 (t363 != t364))) = some r := H
                    have A34 := Aside0.mk A340
                    clear A340
                    replace H := Option.bind_eq_some_iff.mp H
                    obtain ⟨t364, A350, H⟩ := H
                    replace H : (colloquylaw18_TraceFirst.j1 k1 l0 a2 t349 (t363 != t364)) = some r := H
                    have A35 := Aside0.mk A350
                    clear A350
                    have H' := Aside0.mk H
                    clear H
                    obtain ⟨Ao36, co36, eo36⟩ := Kd.R_slice HO_8.out
                    subst eo36
                    go_wp2_with (first | (go_at_call 49; (with_reducible refine (trace_Verdict.calls k1 0 _ _ y356 a2 t363 _ ?side1 ?side2 A34.out).mono ?_); (case side1 => repeat (first | exact (Kd.R_reads' HO_8.out).2.2 | (with_reducible refine Kd.C_alloc ?_ _) | (with_reducible refine Kd.C_drewN ?_ _) | (with_reducible refine Kd.C_drew ?_))); (case side2 => exact (Kd.R_reads' HO_8.out).2.1); rintro e w37 ⟨rfl, hb⟩; have n0_ := Aside0.mk (Kd.R_below (by (with_reducible repeat (first | apply Kd.R_alloc | apply Kd.R_drewN | apply Kd.R_drew)); exact HO_8.out) hb); have n1_ := Aside0.mk (below_step (by repeat (first | (with_reducible first | exact HB.out | apply below_alloc | apply pw_below_drewN | apply below_drew1) | exact HB.out)) hb); clear HO_8; clear HB; have HO_8 := n0_; have HB := n1_; clear n0_ n1_; (try clear hb); (try clear hb2); (try clear hk); (try clear hi)) | (go_at_call 49; (with_reducible refine (trace_Verdict.calls k1 0 _ _ l1 a2 t364 _ ?side1 ?side2 A35.out).mono ?_); (case side1 => repeat (first | exact (Kd.C_below HR1.out HB.out) | (with_reducible refine Kd.C_alloc ?_ _) | (with_reducible refine Kd.C_drewN ?_ _) | (with_reducible refine Kd.C_drew ?_))); (case side2 => exact HC1.out); rintro e w38 ⟨rfl, hb⟩; have n0_ := Aside0.mk (Kd.R_below (by (with_reducible repeat (first | apply Kd.R_alloc | apply Kd.R_drewN | apply Kd.R_drew)); exact HO_8.out) hb); have n1_ := Aside0.mk (below_step (by repeat (first | (with_reducible first | exact HB.out | apply below_alloc | apply pw_below_drewN | apply below_drew1) | exact HB.out)) hb); clear HO_8; clear HB; have HO_8 := n0_; have HB := n1_; clear n0_ n1_; (try clear hb); (try clear hb2); (try clear hk); (try clear hi)))
                    go_meet
                    case rel => exact ⟨_, ((t363 != t364)), (by first | rfl | (simp; done) | (simp [*]; done)), H', ⟨by have := HK1.out; first | omega | exact Nat.le_refl _⟩, ⟨by repeat (first | (with_reducible first | exact HB.out | apply below_alloc | apply pw_below_drewN | apply below_drew1) | exact HB.out)⟩⟩
                  · rw [if_neg c33] at H
                    have c33b0 : (t349 == 5) = false := beq_eq_false_iff_ne.mpr c33
                    have c33b1 : (t349 != 5) = true := bne_iff_ne.mpr c33
                    have H' := Aside0.mk H
                    clear H
                    go_wp2
                    go_meet
                    case rel => exact ⟨_, (true), (by first | rfl | (simp; done) | (simp [*]; done)), H', ⟨by have := HK1.out; first | omega | exact Nat.le_refl _⟩, ⟨by repeat (first | (with_reducible first | exact HB.out | apply below_alloc | apply pw_below_drewN | apply below_drew1) | exact HB.out)⟩⟩
              case rest =>
                clear HC25
                try clear c1
                try clear c2
                try clear p2
                try clear c3
                try clear p3
                try clear q3
                try clear hx3
                try clear c4
                try clear c5
                try clear p6
                try clear c7
                try clear c8
                try clear c14
                try clear c15
                try clear c15b0
                try clear c16
                try clear c16b0
                try clear c17
                try clear c17b0
                try clear c18
                try clear c26
                try clear c28
                try clear c28b0
                try clear c28b1
                try clear c33
                try clear c33b0
                try clear c33b1
                try clear p35
                try clear q35
                try clear hx35
                try clear hcz20_0
                try clear hcz20_1
                try clear hcz20_2
                try clear hcz20_3
                try clear hcz23_0
                try clear hcz23_1
                try clear hcz23_2
                try clear hcz23_3
                try clear hfz20_0
                try clear hfz20_1
                try clear hfz20_2
                try clear hfz20_3
                try clear hfz23_0
                try clear hfz23_1
                try clear hfz23_2
                try clear hfz23_3
                try clear hx359_0
                try clear hx359_1
                try clear hx359_2
                try clear hx359_3
                try clear p2
                try clear p359
                try clear q359
                obtain ⟨kq, x59_24, rfl, HA, HJ24, HB⟩ := hcut
                cases kq with
                | zero => exact absurd HA.out (by simp [colloquylaw18_TraceFirst.j1])
                | succ kj24 =>
                  have H := HA.out
                  clear HA
                  simp only [colloquylaw18_TraceFirst.j1] at H
                  by_cases c39 : x59_24 = true
                  · subst c39
                    have H1 : (some false) = some r := by rw [if_pos rfl] at H; exact H
                    clear H
                    have H := H1
                    clear H1
                    obtain rfl := Option.some.inj H
                    go_wp2
                    go_ret
                    exact ⟨by first | rfl | (simp [errW_none, errW_some] <;> rfl) | (simp [*, errW_none, errW_some] <;> rfl), by repeat (first | (with_reducible first | exact HB.out | apply below_alloc | apply pw_below_drewN | apply below_drew1) | exact HB.out)⟩
                  · replace c39 := Bool.eq_false_iff.mpr c39
                    subst c39
                    have H1 : ((trace_Verdict.f kj24 0 l0 (!a2)).bind fun t365 => (if t349 = 5 then (some (t365 == t349)) else ((some (([0, 3, 4, 1, 2] : List Int) : List Int)).bind fun y366 => (if 0 ≤ t349 then (if t349 < (y366.length : Int) then (some (t365 == (rd y366 t349))) else (none)) else (none))))) = some r := by rw [if_neg (show ¬ (false = true) by decide)] at H; exact H
                    clear H
                    have H := H1
                    clear H1
                    replace H := Option.bind_eq_some_iff.mp H
                    obtain ⟨t365, A400, H⟩ := H
                    replace H : (if t349 = 5 then (some (t365 == t349)) else ((some (([0, 3, 4, 1, 2] : List Int) : List Int)).bind fun y366 => (if 0 ≤ t349 then (if t349 < (y366.length : Int) then (some (t365 == (rd y366 t349))) else (none)) else (none)))) = some r := H
                    have A40 := Aside0.mk A400
                    clear A400
                    by_cases c41 : t349 = 5
                    · rw [if_pos c41] at H
                      have c41b0 : (t349 == 5) = true := beq_iff_eq.mpr c41
                      have c41b1 : (t349 != 5) = false := bne_eq_false_iff_eq.mpr c41
                      clear c41
                      obtain rfl := Option.some.inj H
                      go_wp2_with (first | ((with_reducible refine gate_callee (f := 49) rfl ?_); refine goesL_ (some 63) rfl rfl Try.func49 (by kernel_rfl) rfl #[.int .i64 0, .slice A0 l0.length c0, .bool (!a2)] rfl (by (try simp only [List.map_toArray, List.map_cons, List.map_nil]); first | done | rfl | (simp only [List.length_drop, List.length_take]; rfl)) ?_; (with_reducible refine (trace_Verdict.calls kj24 0 _ _ l0 (!a2) t365 _ ?side1 ?side2 A40.out).mono ?_); (case side1 => repeat (first | exact (Kd.C_below HR0.out HB.out) | (with_reducible refine Kd.C_alloc ?_ _) | (with_reducible refine Kd.C_drewN ?_ _) | (with_reducible refine Kd.C_drew ?_))); (case side2 => exact HC0.out); rintro e w42 ⟨rfl, hb⟩; refine ⟨_, rfl, ?_⟩; have n0_ := Aside0.mk (below_step (by repeat (first | (with_reducible first | exact HB.out | apply below_alloc | apply pw_below_drewN | apply below_drew1) | exact HB.out)) hb); clear HB; have HB := n0_; clear n0_; (try clear hb); (try clear hb2); (try clear hk); (try clear hi)))
                      go_ret
                      exact ⟨by first | rfl | (simp [errW_none, errW_some] <;> rfl) | (simp [*, errW_none, errW_some] <;> rfl), by repeat (first | (with_reducible first | exact HB.out | apply below_alloc | apply pw_below_drewN | apply below_drew1) | exact HB.out)⟩
                    · rw [if_neg c41] at H
                      have c41b0 : (t349 == 5) = false := beq_eq_false_iff_ne.mpr c41
                      have c41b1 : (t349 != 5) = true := bne_iff_ne.mpr c41
                      obtain ⟨y366, hy366⟩ : ∃ y_ : List Int, y_ = (([0, 3, 4, 1, 2] : List Int)) := ⟨_, rfl⟩
                      replace H : (if 0 ≤ t349 then (if t349 < (y366.length : Int) then (some (t365 == (rd y366 t349))) else (none)) else (none)) = some r := by first | (rw [hy366]; with_reducible exact H) | (have H2_ := (Option.bind_some _ _).symm.trans H; rw [hy366]; with_reducible exact H2_) | (have H2_ := (Option.bind_some _ _).symm.trans H; with_reducible exact H2_) | with_reducible exact H | (rw [hy366]; exact H) | exact H
                      have Ny366 := Aside0.mk hy366
                      clear hy366
                      by_cases c43 : 0 ≤ t349
                      · rw [if_pos c43] at H
                        have c43b0 : decide (0 ≤ t349) = true := decide_eq_true c43
                        clear c43
                        by_cases c44 : t349 < (y366.length : Int)
                        · rw [if_pos c44] at H
                          have c44b0 : decide (t349 < (y366.length : Int)) = true := decide_eq_true c44
                          clear c44
                          obtain rfl := Option.some.inj H
                          go_wp2_with (first | ((with_reducible refine gate_callee (f := 49) rfl ?_); refine goesL_ (some 63) rfl rfl Try.func49 (by kernel_rfl) rfl #[.int .i64 0, .slice A0 l0.length c0, .bool (!a2)] rfl (by (try simp only [List.map_toArray, List.map_cons, List.map_nil]); first | done | rfl | (simp only [List.length_drop, List.length_take]; rfl)) ?_; (with_reducible refine (trace_Verdict.calls kj24 0 _ _ l0 (!a2) t365 _ ?side1 ?side2 A40.out).mono ?_); (case side1 => repeat (first | exact (Kd.C_below HR0.out HB.out) | (with_reducible refine Kd.C_alloc ?_ _) | (with_reducible refine Kd.C_drewN ?_ _) | (with_reducible refine Kd.C_drew ?_))); (case side2 => exact HC0.out); rintro e w45 ⟨rfl, hb⟩; refine ⟨_, rfl, ?_⟩; have n0_ := Aside0.mk (below_step (by repeat (first | (with_reducible first | exact HB.out | apply below_alloc | apply pw_below_drewN | apply below_drew1) | exact HB.out)) hb); clear HB; have HB := n0_; clear n0_; (try clear hb); (try clear hb2); (try clear hk); (try clear hi)) | ((with_reducible refine gate_dst (N := 70) rfl ?_); refine Kd.R_lit (Kd.int .i64) _ 3 ?hg (N := 70) ?hd (xs := ([0, 3, 4, 1, 2] : List Int)) (inner := [.int .i64 0, .int .i64 3, .int .i64 4, .int .i64 1, .int .i64 2]) (ok := fun _ => True) (okp := fun _ => True) ?hr ?hp (fun _ hk => hk) trivial (Below.refl _ _) (Nat.le_refl _) (by simp) ?_; (case hd => rfl); (case hg => rfl); (case hr => first | (go_simp; done) | (go_simp; rfl)); (case hp => exact (Reps.one (show Kd.M (Kd.int .i64) _ _ _ 0 [.int .i64 0] from rfl) (Reps.one (show Kd.M (Kd.int .i64) _ _ _ 3 [.int .i64 3] from rfl) (Reps.one (show Kd.M (Kd.int .i64) _ _ _ 4 [.int .i64 4] from rfl) (Reps.one (show Kd.M (Kd.int .i64) _ _ _ 1 [.int .i64 1] from rfl) (Reps.one (show Kd.M (Kd.int .i64) _ _ _ 2 [.int .i64 2] from rfl) (Reps.none _ _))))))); intro v367 w46 ho47 hb hg_ hnew_; clear hg_ hnew_; (first | rw [← Ny366.out] at ho47 | (simp only [Int.reduceToNat] at ho47; rw [← Ny366.out] at ho47)); have n0_ := Aside0.mk (Kd.R_lower ho47 (below_size (by repeat (first | (with_reducible first | exact HB.out | apply below_alloc | apply pw_below_drewN | apply below_drew1) | exact HB.out)))); have n1_ := Aside0.mk (below_step (by repeat (first | (with_reducible first | exact HB.out | apply below_alloc | apply pw_below_drewN | apply below_drew1) | exact HB.out)) hb); clear HB; have HO368 := n0_; have HB := n1_; clear n0_ n1_; clear hb ho47; obtain ⟨Ao48, co48, eo48⟩ := Kd.R_slice HO368.out; subst eo48; have p369 : 0 ≤ (t349 : Int) := of_decide_eq_true (by first | (with_reducible assumption) | assumption); have q369 : t349 < (y366.length : Int) := of_decide_eq_true (by first | (with_reducible assumption) | assumption); obtain ⟨ad369, e369, hx369_0⟩ := Kd.at_int (Kd.R_reads' HO368.out).2.2 t349 p369 q369; cases e369; replace p369 := eq_true p369; replace q369 := eq_true q369))
                          go_ret
                          exact ⟨by first | rfl | (simp [errW_none, errW_some] <;> rfl) | (simp [*, errW_none, errW_some] <;> rfl), by repeat (first | (with_reducible first | exact HB.out | apply below_alloc | apply pw_below_drewN | apply below_drew1) | exact HB.out)⟩
                        · rw [if_neg c44] at H
                          exact absurd H (by simp)
                      · rw [if_neg c43] at H
                        exact absurd H (by simp)
      · rw [if_neg c8] at H
        exact absurd H (by simp)
    · rw [if_neg c7] at H
      exact absurd H (by simp)
  · replace c5 := Bool.eq_false_iff.mpr c5
    subst c5
    have H1 : (some false) = some r := by rw [if_neg (show ¬ (false = true) by decide)] at H; exact H
    clear H
    have H := H1
    clear H1
    obtain rfl := Option.some.inj H
    go_enter Try.func14, Try.ntmps14
    go_wp2_with (first | ((with_reducible refine gate_callee (f := 48) rfl ?_); refine goesL_ (some 13) rfl rfl Try.func48 (by kernel_rfl) rfl #[] rfl (by (try simp only [List.map_toArray, List.map_cons, List.map_nil]); first | done | rfl | (simp only [List.length_drop, List.length_take]; rfl)) ?_; (with_reducible refine (colloquylaw18_alive.calls k  false _ A4.out).mono ?_); rintro e w49 ⟨rfl, hb⟩; refine ⟨_, rfl, ?_⟩; have n0_ := Aside0.mk (below_step (by repeat (first | (with_reducible first | exact HB.out | apply below_alloc | apply pw_below_drewN | apply below_drew1) | exact HB.out)) hb); clear HB; have HB := n0_; clear n0_; (try clear hb); (try clear hb2); (try clear hk); (try clear hi)))
    go_ret
    exact ⟨by first | rfl | (simp [errW_none, errW_some] <;> rfl) | (simp [*, errW_none, errW_some] <;> rfl), by repeat (first | (with_reducible first | exact HB.out | apply below_alloc | apply pw_below_drewN | apply below_drew1) | exact HB.out)⟩

end Go.Proofs.Ytmlemnfleicnfaa.PA
