/- A Go function of the translation as a plain Lean function, with the proof that the call answers just so. Printed by a program of this session; Lean checks it. -/
import Derived.Test.YtoinmpjjmkpamaaDoorPAx0
import Derived.Test.YtoinmpjjmkpamaaDoorPAx27
import Derived.Test.YtoinmpjjmkpamaaDoorPAx34
namespace Go.Proofs.YtoinmpjjmkpamaaDoor.PA
open Go.RowKit Go.Proofs.YtoinmpjjmkpamaaDoorW.PrintWords Go.Proofs.YtoinmpjjmkpamaaDoorW.PrintLast Go.Proofs.YtoinmpjjmkpamaaDoorW.PrintMore
attribute [local go_sem] max2_int min2_int max_two min_two max_three min_three max_four min_four   -- for this text's walks alone
set_option linter.unusedVariables false
set_option linter.unusedSimpArgs false

/-! ### colloquylaw02_NameNumbers: function 5 -/
def colloquylaw02_NameNumbers.j0 : Nat → ByteArray → Int → Int → Bool → Option (Bool)
  | 0, _, _, _, _ => none
  | k + 1, x0, x1, x2, x15 => if x15 = true then (some (decide ((x0.size : Int) > 1000))) else (if x0.size + 1 ≤ 9223372036854775807 then ((colloquylaw02_digits.f k (Go.bits .and .i64 x1 1048575)).bind fun t147 => (if (x0 ++ (⟨#[46]⟩ : ByteArray)).size + t147.size ≤ 9223372036854775807 then ((colloquylaw02_digits.f k (Go.bits .and .i64 x2 1048575)).bind fun t148 => (if (x0 ++ (⟨#[46]⟩ : ByteArray)).size + t148.size ≤ 9223372036854775807 then (if (Go.bits .and .i64 x1 1048575) < (Go.bits .and .i64 x2 1048575) then ((name_Cmp.f k ((x0 ++ (⟨#[46]⟩ : ByteArray)) ++ t147) ((x0 ++ (⟨#[46]⟩ : ByteArray)) ++ t148)).bind fun t149 => (some (t149 == (-1)))) else (if (Go.bits .and .i64 x1 1048575) > (Go.bits .and .i64 x2 1048575) then ((name_Cmp.f k ((x0 ++ (⟨#[46]⟩ : ByteArray)) ++ t147) ((x0 ++ (⟨#[46]⟩ : ByteArray)) ++ t148)).bind fun t150 => (some (t150 == 1))) else ((name_Cmp.f k ((x0 ++ (⟨#[46]⟩ : ByteArray)) ++ t147) ((x0 ++ (⟨#[46]⟩ : ByteArray)) ++ t148)).bind fun t151 => (if t151 = 0 then (if (x0 ++ (⟨#[46]⟩ : ByteArray)).size + 1 ≤ 9223372036854775807 then ((colloquylaw02_digits.f k (Go.bits .and .i64 x1 1048575)).bind fun t152 => (if ((x0 ++ (⟨#[46]⟩ : ByteArray)) ++ (⟨#[48]⟩ : ByteArray)).size + t152.size ≤ 9223372036854775807 then ((name_Cmp.f k ((x0 ++ (⟨#[46]⟩ : ByteArray)) ++ t147) (((x0 ++ (⟨#[46]⟩ : ByteArray)) ++ (⟨#[48]⟩ : ByteArray)) ++ t152)).bind fun t153 => (some (t153 == (-1)))) else (none))) else (none)) else (some false))))) else (none))) else (none))) else (none))
def colloquylaw02_NameNumbers.f (k : Nat) (a0 : ByteArray) (a1 : Int) (a2 : Int) : Option (Bool) := (name_Cmp.f k (⟨#[116, 50]⟩ : ByteArray) (⟨#[116, 49, 48]⟩ : ByteArray)).bind fun t146 => (if t146 = (-1) then (colloquylaw02_NameNumbers.j0 k a0 a1 a2 (decide ((a0.size : Int) > 1000))) else (colloquylaw02_NameNumbers.j0 k a0 a1 a2 true))
theorem colloquylaw02_NameNumbers.mono_l : ∀ k, (∀ y0 y1 y2 y3, LeO (colloquylaw02_NameNumbers.j0 k y0 y1 y2 y3) (colloquylaw02_NameNumbers.j0 (k + 1) y0 y1 y2 y3))
  | 0 => fun _ _ _ _ r h => by simp [colloquylaw02_NameNumbers.j0] at h
  | k + 1 => by
    have ih0 := colloquylaw02_NameNumbers.mono_l k
    · intro y0 y1 y2 y3
      unfold colloquylaw02_NameNumbers.j0
      repeat' first
      | (with_reducible exact ih0 _ _ _ _)
      | (with_reducible exact colloquylaw02_digits.mono _ _)
      | (with_reducible exact name_Cmp.mono _ _ _)
      | (with_reducible exact LeO.refl _)
      | (with_reducible exact LeO.none _)
      | (with_reducible refine LeO.ite ?_ ?_)
      | (with_reducible refine LeO.bind ?_ (fun _ => ?_))
      | exact ih0 _ _ _ _
      | exact colloquylaw02_digits.mono _ _
      | exact name_Cmp.mono _ _ _
      | exact LeO.none _
      | refine LeO.ite ?_ ?_
      | refine LeO.bind ?_ (fun _ => ?_)
theorem colloquylaw02_NameNumbers.mono : ∀ a0 a1 a2 k, LeO (colloquylaw02_NameNumbers.f k a0 a1 a2) (colloquylaw02_NameNumbers.f (k + 1) a0 a1 a2) := by
  intro a0 a1 a2 k
  have ih0 := colloquylaw02_NameNumbers.mono_l k
  unfold colloquylaw02_NameNumbers.f
  repeat' first
      | (with_reducible exact ih0 _ _ _ _)
      | (with_reducible exact colloquylaw02_digits.mono _ _)
      | (with_reducible exact name_Cmp.mono _ _ _)
      | (with_reducible exact LeO.refl _)
      | (with_reducible exact LeO.none _)
      | (with_reducible refine LeO.ite ?_ ?_)
      | (with_reducible refine LeO.bind ?_ (fun _ => ?_))
      | exact ih0 _ _ _ _
      | exact colloquylaw02_digits.mono _ _
      | exact name_Cmp.mono _ _ _
      | exact LeO.none _
      | refine LeO.ite ?_ ?_
      | refine LeO.bind ?_ (fun _ => ?_)
set_option maxHeartbeats 8000000 in
set_option maxRecDepth 100000 in
theorem colloquylaw02_NameNumbers.calls (k : Nat) (a0 : ByteArray) (a1 : Int) (a2 : Int) (r : Bool) (w : World) (h : colloquylaw02_NameNumbers.f k a0 a1 a2 = some r) :
    Calls Tryd.prog 5 #[.string a0, .int .i64 a1, .int .i64 a2] w fun e w' => e = .returned (.bool r) ∧ Below w.heap.size w w' := by
  have HB := Aside0.mk (Below.refl w.heap.size w)
  have H : ((name_Cmp.f k (⟨#[116, 50]⟩ : ByteArray) (⟨#[116, 49, 48]⟩ : ByteArray)).bind fun t146 => (if t146 = (-1) then (colloquylaw02_NameNumbers.j0 k a0 a1 a2 (decide ((a0.size : Int) > 1000))) else (colloquylaw02_NameNumbers.j0 k a0 a1 a2 true))) = some r := h
  clear h
  have HC4 := Aside0.mk H
  clear H
  go_enter Tryd.func5, Tryd.ntmps5
  go_upto_region 1 with (fail)
  go_cut [15] (fun v15 wc => ∃ (kq : Nat) (x15_3 : Bool), v15 = .bool x15_3 ∧ Aside0 (colloquylaw02_NameNumbers.j0 kq a0 a1 a2 x15_3 = some r) ∧ Aside0 (kq ≤ k) ∧ Aside0 (Below w.heap.size w wc))
  case first =>
    have H := HC4.out
    clear HC4
    replace H := Option.bind_eq_some_iff.mp H
    obtain ⟨t146, A50, H⟩ := H
    replace H : (if t146 = (-1) then (colloquylaw02_NameNumbers.j0 k a0 a1 a2 (decide ((a0.size : Int) > 1000))) else (colloquylaw02_NameNumbers.j0 k a0 a1 a2 true)) = some r := H
    have A5 := Aside0.mk A50
    clear A50
    by_cases c6 : t146 = (-1)
    · rw [if_pos c6] at H
      have c6b0 : (t146 == (-1)) = true := beq_iff_eq.mpr c6
      have c6b1 : (t146 != (-1)) = false := bne_eq_false_iff_eq.mpr c6
      clear c6
      (first | rw [c6b0] | rw [c6b1] | (simp only [i64_w, i32_w]; rw [c6b0]) | skip)
      have H' := Aside0.mk H
      clear H
      go_wp2_with (first | ((with_reducible refine gate_callee (f := 6) rfl ?_); refine goesL_ (some 9) rfl rfl Tryd.func6 (by kernel_rfl) rfl #[.string (⟨#[116, 50]⟩ : ByteArray), .string (⟨#[116, 49, 48]⟩ : ByteArray)] rfl (by (try simp only [List.map_toArray, List.map_cons, List.map_nil]); first | done | rfl | (simp only [List.length_drop, List.length_take]; rfl)) ?_; (with_reducible refine (name_Cmp.calls k (⟨#[116, 50]⟩ : ByteArray) (⟨#[116, 49, 48]⟩ : ByteArray) t146 _ A5.out).mono ?_); rintro e w7 ⟨rfl, hb⟩; refine ⟨_, rfl, ?_⟩; have n0_ := Aside0.mk (below_step (by repeat (first | (with_reducible first | exact HB.out | apply below_alloc | apply pw_below_drewN | apply below_drew1) | exact HB.out)) hb); clear HB; have HB := n0_; clear n0_; (try clear hb); (try clear hb2); (try clear hk); (try clear hi)))
      go_meet
      case rel => exact ⟨_, (decide ((a0.size : Int) > 1000)), (by first | rfl | (simp; done) | (simp [*]; done)), H', ⟨by first | omega | exact Nat.le_refl _⟩, ⟨by repeat (first | (with_reducible first | exact HB.out | apply below_alloc | apply pw_below_drewN | apply below_drew1) | exact HB.out)⟩⟩
    · rw [if_neg c6] at H
      have c6b0 : (t146 == (-1)) = false := beq_eq_false_iff_ne.mpr c6
      have c6b1 : (t146 != (-1)) = true := bne_iff_ne.mpr c6
      (first | rw [c6b0] | rw [c6b1] | (simp only [i64_w, i32_w]; rw [c6b0]) | skip)
      have H' := Aside0.mk H
      clear H
      go_wp2_with (first | ((with_reducible refine gate_callee (f := 6) rfl ?_); refine goesL_ (some 9) rfl rfl Tryd.func6 (by kernel_rfl) rfl #[.string (⟨#[116, 50]⟩ : ByteArray), .string (⟨#[116, 49, 48]⟩ : ByteArray)] rfl (by (try simp only [List.map_toArray, List.map_cons, List.map_nil]); first | done | rfl | (simp only [List.length_drop, List.length_take]; rfl)) ?_; (with_reducible refine (name_Cmp.calls k (⟨#[116, 50]⟩ : ByteArray) (⟨#[116, 49, 48]⟩ : ByteArray) t146 _ A5.out).mono ?_); rintro e w8 ⟨rfl, hb⟩; refine ⟨_, rfl, ?_⟩; have n0_ := Aside0.mk (below_step (by repeat (first | (with_reducible first | exact HB.out | apply below_alloc | apply pw_below_drewN | apply below_drew1) | exact HB.out)) hb); clear HB; have HB := n0_; clear n0_; (try clear hb); (try clear hb2); (try clear hk); (try clear hi)))
      go_meet
      case rel => exact ⟨_, (true), (by first | rfl | (simp; done) | (simp [*]; done)), H', ⟨by first | omega | exact Nat.le_refl _⟩, ⟨by repeat (first | (with_reducible first | exact HB.out | apply below_alloc | apply pw_below_drewN | apply below_drew1) | exact HB.out)⟩⟩
  case rest =>
    clear HC4
    try clear p2
    try clear c5
    try clear c6
    try clear c6b0
    try clear c6b1
    obtain ⟨kq, x15_3, rfl, HA, HJ3, HB⟩ := hcut
    cases kq with
    | zero => exact absurd HA.out (by simp [colloquylaw02_NameNumbers.j0])
    | succ kj3 =>
      have H := HA.out
      clear HA
      simp only [colloquylaw02_NameNumbers.j0] at H
      by_cases c9 : x15_3 = true
      · subst c9
        have H1 : (some (decide ((a0.size : Int) > 1000))) = some r := by rw [if_pos rfl] at H; exact H
        clear H
        have H := H1
        clear H1
        obtain rfl := Option.some.inj H
        go_wp2
        go_ret
        exact ⟨by first | rfl | (simp [errW_none, errW_some] <;> rfl) | (simp [*, errW_none, errW_some] <;> rfl), by repeat (first | (with_reducible first | exact HB.out | apply below_alloc | apply pw_below_drewN | apply below_drew1) | exact HB.out)⟩
      · replace c9 := Bool.eq_false_iff.mpr c9
        subst c9
        have H1 : (if a0.size + 1 ≤ 9223372036854775807 then ((colloquylaw02_digits.f kj3 (Go.bits .and .i64 a1 1048575)).bind fun t147 => (if (a0 ++ (⟨#[46]⟩ : ByteArray)).size + t147.size ≤ 9223372036854775807 then ((colloquylaw02_digits.f kj3 (Go.bits .and .i64 a2 1048575)).bind fun t148 => (if (a0 ++ (⟨#[46]⟩ : ByteArray)).size + t148.size ≤ 9223372036854775807 then (if (Go.bits .and .i64 a1 1048575) < (Go.bits .and .i64 a2 1048575) then ((name_Cmp.f kj3 ((a0 ++ (⟨#[46]⟩ : ByteArray)) ++ t147) ((a0 ++ (⟨#[46]⟩ : ByteArray)) ++ t148)).bind fun t149 => (some (t149 == (-1)))) else (if (Go.bits .and .i64 a1 1048575) > (Go.bits .and .i64 a2 1048575) then ((name_Cmp.f kj3 ((a0 ++ (⟨#[46]⟩ : ByteArray)) ++ t147) ((a0 ++ (⟨#[46]⟩ : ByteArray)) ++ t148)).bind fun t150 => (some (t150 == 1))) else ((name_Cmp.f kj3 ((a0 ++ (⟨#[46]⟩ : ByteArray)) ++ t147) ((a0 ++ (⟨#[46]⟩ : ByteArray)) ++ t148)).bind fun t151 => (if t151 = 0 then (if (a0 ++ (⟨#[46]⟩ : ByteArray)).size + 1 ≤ 9223372036854775807 then ((colloquylaw02_digits.f kj3 (Go.bits .and .i64 a1 1048575)).bind fun t152 => (if ((a0 ++ (⟨#[46]⟩ : ByteArray)) ++ (⟨#[48]⟩ : ByteArray)).size + t152.size ≤ 9223372036854775807 then ((name_Cmp.f kj3 ((a0 ++ (⟨#[46]⟩ : ByteArray)) ++ t147) (((a0 ++ (⟨#[46]⟩ : ByteArray)) ++ (⟨#[48]⟩ : ByteArray)) ++ t152)).bind fun t153 => (some (t153 == (-1)))) else (none))) else (none)) else (some false))))) else (none))) else (none))) else (none)) = some r := by rw [if_neg (show ¬ (false = true) by decide)] at H; exact H
        clear H
        have H := H1
        clear H1
        by_cases c10 : a0.size + 1 ≤ 9223372036854775807
        · rw [if_pos c10] at H
          have c10b0 := eq_true c10
          have c10b1 : decide (a0.size + 1 ≤ 9223372036854775807) = true := decide_eq_true c10
          try have c10b2 : (9223372036854775807 < a0.size + 1) = False := eq_false (Nat.not_lt.2 c10)
          try (have c10b3 := c10; simp only [ByteArray.size_append] at c10b3; replace c10b3 := eq_false (Nat.not_lt.2 c10b3))
          replace H := Option.bind_eq_some_iff.mp H
          obtain ⟨t147, A110, H⟩ := H
          replace H : (if (a0 ++ (⟨#[46]⟩ : ByteArray)).size + t147.size ≤ 9223372036854775807 then ((colloquylaw02_digits.f kj3 (Go.bits .and .i64 a2 1048575)).bind fun t148 => (if (a0 ++ (⟨#[46]⟩ : ByteArray)).size + t148.size ≤ 9223372036854775807 then (if (Go.bits .and .i64 a1 1048575) < (Go.bits .and .i64 a2 1048575) then ((name_Cmp.f kj3 ((a0 ++ (⟨#[46]⟩ : ByteArray)) ++ t147) ((a0 ++ (⟨#[46]⟩ : ByteArray)) ++ t148)).bind fun t149 => (some (t149 == (-1)))) else (if (Go.bits .and .i64 a1 1048575) > (Go.bits .and .i64 a2 1048575) then ((name_Cmp.f kj3 ((a0 ++ (⟨#[46]⟩ : ByteArray)) ++ t147) ((a0 ++ (⟨#[46]⟩ : ByteArray)) ++ t148)).bind fun t150 => (some (t150 == 1))) else ((name_Cmp.f kj3 ((a0 ++ (⟨#[46]⟩ : ByteArray)) ++ t147) ((a0 ++ (⟨#[46]⟩ : ByteArray)) ++ t148)).bind fun t151 => (if t151 = 0 then (if (a0 ++ (⟨#[46]⟩ : ByteArray)).size + 1 ≤ 9223372036854775807 then ((colloquylaw02_digits.f kj3 (Go.bits .and .i64 a1 1048575)).bind fun t152 => (if ((a0 ++ (⟨#[46]⟩ : ByteArray)) ++ (⟨#[48]⟩ : ByteArray)).size + t152.size ≤ 9223372036854775807 then ((name_Cmp.f kj3 ((a0 ++ (⟨#[46]⟩ : ByteArray)) ++ t147) (((a0 ++ (⟨#[46]⟩ : ByteArray)) ++ (⟨#[48]⟩ : ByteArray)) ++ t152)).bind fun t153 => (some (t153 == (-1)))) else (none))) else (none)) else (some false))))) else (none))) else (none)) = some r := H
          have A11 := Aside0.mk A110
          clear A110
          by_cases c12 : (a0 ++ (⟨#[46]⟩ : ByteArray)).size + t147.size ≤ 9223372036854775807
          · rw [if_pos c12] at H
            have c12b0 := eq_true c12
            have c12b1 : decide ((a0 ++ (⟨#[46]⟩ : ByteArray)).size + t147.size ≤ 9223372036854775807) = true := decide_eq_true c12
            try have c12b2 : (9223372036854775807 < (a0 ++ (⟨#[46]⟩ : ByteArray)).size + t147.size) = False := eq_false (Nat.not_lt.2 c12)
            try (have c12b3 := c12; simp only [ByteArray.size_append, show (⟨#[46]⟩ : ByteArray).size = 1 from rfl] at c12b3; replace c12b3 := eq_false (Nat.not_lt.2 c12b3))
            replace H := Option.bind_eq_some_iff.mp H
            obtain ⟨t148, A130, H⟩ := H
            replace H : (if (a0 ++ (⟨#[46]⟩ : ByteArray)).size + t148.size ≤ 9223372036854775807 then (if (Go.bits .and .i64 a1 1048575) < (Go.bits .and .i64 a2 1048575) then ((name_Cmp.f kj3 ((a0 ++ (⟨#[46]⟩ : ByteArray)) ++ t147) ((a0 ++ (⟨#[46]⟩ : ByteArray)) ++ t148)).bind fun t149 => (some (t149 == (-1)))) else (if (Go.bits .and .i64 a1 1048575) > (Go.bits .and .i64 a2 1048575) then ((name_Cmp.f kj3 ((a0 ++ (⟨#[46]⟩ : ByteArray)) ++ t147) ((a0 ++ (⟨#[46]⟩ : ByteArray)) ++ t148)).bind fun t150 => (some (t150 == 1))) else ((name_Cmp.f kj3 ((a0 ++ (⟨#[46]⟩ : ByteArray)) ++ t147) ((a0 ++ (⟨#[46]⟩ : ByteArray)) ++ t148)).bind fun t151 => (if t151 = 0 then (if (a0 ++ (⟨#[46]⟩ : ByteArray)).size + 1 ≤ 9223372036854775807 then ((colloquylaw02_digits.f kj3 (Go.bits .and .i64 a1 1048575)).bind fun t152 => (if ((a0 ++ (⟨#[46]⟩ : ByteArray)) ++ (⟨#[48]⟩ : ByteArray)).size + t152.size ≤ 9223372036854775807 then ((name_Cmp.f kj3 ((a0 ++ (⟨#[46]⟩ : ByteArray)) ++ t147) (((a0 ++ (⟨#[46]⟩ : ByteArray)) ++ (⟨#[48]⟩ : ByteArray)) ++ t152)).bind fun t153 => (some (t153 == (-1)))) else (none))) else (none)) else (some false))))) else (none)) = some r := H
            have A13 := Aside0.mk A130
            clear A130
            by_cases c14 : (a0 ++ (⟨#[46]⟩ : ByteArray)).size + t148.size ≤ 9223372036854775807
            · rw [if_pos c14] at H
              have c14b0 := eq_true c14
              have c14b1 : decide ((a0 ++ (⟨#[46]⟩ : ByteArray)).size + t148.size ≤ 9223372036854775807) = true := decide_eq_true c14
              try have c14b2 : (9223372036854775807 < (a0 ++ (⟨#[46]⟩ : ByteArray)).size + t148.size) = False := eq_false (Nat.not_lt.2 c14)
              try (have c14b3 := c14; simp only [ByteArray.size_append, show (⟨#[46]⟩ : ByteArray).size = 1 from rfl] at c14b3; replace c14b3 := eq_false (Nat.not_lt.2 c14b3))
              by_cases c15 : (Go.bits .and .i64 a1 1048575) < (Go.bits .and .i64 a2 1048575)
              · rw [if_pos c15] at H
                have c15b0 : decide ((Go.bits .and .i64 a1 1048575) < (Go.bits .and .i64 a2 1048575)) = true := decide_eq_true c15
                clear c15
                replace H := Option.bind_eq_some_iff.mp H
                obtain ⟨t149, A160, H⟩ := H
                replace H : (some (t149 == (-1))) = some r := H
                have A16 := Aside0.mk A160
                clear A160
                obtain rfl := Option.some.inj H
                go_wp2_with (first | ((with_reducible refine gate_callee (f := 8) rfl ?_); refine goesL_ (some 27) rfl rfl Tryd.func8 (by kernel_rfl) rfl #[.int .i64 (Go.bits .and .i64 a1 1048575)] rfl (by (try simp only [List.map_toArray, List.map_cons, List.map_nil]); first | done | rfl | (simp only [List.length_drop, List.length_take]; rfl)) ?_; (with_reducible refine (colloquylaw02_digits.calls kj3 (Go.bits .and .i64 a1 1048575) t147 _ A11.out).mono ?_); rintro e w17 ⟨rfl, hb⟩; refine ⟨_, rfl, ?_⟩; have n0_ := Aside0.mk (below_step (by repeat (first | (with_reducible first | exact HB.out | apply below_alloc | apply pw_below_drewN | apply below_drew1) | exact HB.out)) hb); clear HB; have HB := n0_; clear n0_; (try clear hb); (try clear hb2); (try clear hk); (try clear hi)) | ((with_reducible refine gate_callee (f := 8) rfl ?_); refine goesL_ (some 31) rfl rfl Tryd.func8 (by kernel_rfl) rfl #[.int .i64 (Go.bits .and .i64 a2 1048575)] rfl (by (try simp only [List.map_toArray, List.map_cons, List.map_nil]); first | done | rfl | (simp only [List.length_drop, List.length_take]; rfl)) ?_; (with_reducible refine (colloquylaw02_digits.calls kj3 (Go.bits .and .i64 a2 1048575) t148 _ A13.out).mono ?_); rintro e w18 ⟨rfl, hb⟩; refine ⟨_, rfl, ?_⟩; have n0_ := Aside0.mk (below_step (by repeat (first | (with_reducible first | exact HB.out | apply below_alloc | apply pw_below_drewN | apply below_drew1) | exact HB.out)) hb); clear HB; have HB := n0_; clear n0_; (try clear hb); (try clear hb2); (try clear hk); (try clear hi)) | ((with_reducible refine gate_callee (f := 6) rfl ?_); refine goesL_ (some 39) rfl rfl Tryd.func6 (by kernel_rfl) rfl #[.string ((a0 ++ (⟨#[46]⟩ : ByteArray)) ++ t147), .string ((a0 ++ (⟨#[46]⟩ : ByteArray)) ++ t148)] rfl (by (try simp only [List.map_toArray, List.map_cons, List.map_nil]); first | done | rfl | (simp only [List.length_drop, List.length_take]; rfl)) ?_; (with_reducible refine (name_Cmp.calls kj3 ((a0 ++ (⟨#[46]⟩ : ByteArray)) ++ t147) ((a0 ++ (⟨#[46]⟩ : ByteArray)) ++ t148) t149 _ A16.out).mono ?_); rintro e w19 ⟨rfl, hb⟩; refine ⟨_, rfl, ?_⟩; have n0_ := Aside0.mk (below_step (by repeat (first | (with_reducible first | exact HB.out | apply below_alloc | apply pw_below_drewN | apply below_drew1) | exact HB.out)) hb); clear HB; have HB := n0_; clear n0_; (try clear hb); (try clear hb2); (try clear hk); (try clear hi)))
                go_ret
                exact ⟨by first | rfl | (simp [errW_none, errW_some] <;> rfl) | (simp [*, errW_none, errW_some] <;> rfl), by repeat (first | (with_reducible first | exact HB.out | apply below_alloc | apply pw_below_drewN | apply below_drew1) | exact HB.out)⟩
              · rw [if_neg c15] at H
                have c15b0 : decide ((Go.bits .and .i64 a1 1048575) < (Go.bits .and .i64 a2 1048575)) = false := decide_eq_false c15
                clear c15
                by_cases c20 : (Go.bits .and .i64 a1 1048575) > (Go.bits .and .i64 a2 1048575)
                · rw [if_pos c20] at H
                  have c20b0 : decide ((Go.bits .and .i64 a2 1048575) < (Go.bits .and .i64 a1 1048575)) = true := decide_eq_true c20
                  clear c20
                  replace H := Option.bind_eq_some_iff.mp H
                  obtain ⟨t150, A210, H⟩ := H
                  replace H : (some (t150 == 1)) = some r := H
                  have A21 := Aside0.mk A210
                  clear A210
                  obtain rfl := Option.some.inj H
                  go_wp2_with (first | ((with_reducible refine gate_callee (f := 8) rfl ?_); refine goesL_ (some 27) rfl rfl Tryd.func8 (by kernel_rfl) rfl #[.int .i64 (Go.bits .and .i64 a1 1048575)] rfl (by (try simp only [List.map_toArray, List.map_cons, List.map_nil]); first | done | rfl | (simp only [List.length_drop, List.length_take]; rfl)) ?_; (with_reducible refine (colloquylaw02_digits.calls kj3 (Go.bits .and .i64 a1 1048575) t147 _ A11.out).mono ?_); rintro e w22 ⟨rfl, hb⟩; refine ⟨_, rfl, ?_⟩; have n0_ := Aside0.mk (below_step (by repeat (first | (with_reducible first | exact HB.out | apply below_alloc | apply pw_below_drewN | apply below_drew1) | exact HB.out)) hb); clear HB; have HB := n0_; clear n0_; (try clear hb); (try clear hb2); (try clear hk); (try clear hi)) | ((with_reducible refine gate_callee (f := 8) rfl ?_); refine goesL_ (some 31) rfl rfl Tryd.func8 (by kernel_rfl) rfl #[.int .i64 (Go.bits .and .i64 a2 1048575)] rfl (by (try simp only [List.map_toArray, List.map_cons, List.map_nil]); first | done | rfl | (simp only [List.length_drop, List.length_take]; rfl)) ?_; (with_reducible refine (colloquylaw02_digits.calls kj3 (Go.bits .and .i64 a2 1048575) t148 _ A13.out).mono ?_); rintro e w23 ⟨rfl, hb⟩; refine ⟨_, rfl, ?_⟩; have n0_ := Aside0.mk (below_step (by repeat (first | (with_reducible first | exact HB.out | apply below_alloc | apply pw_below_drewN | apply below_drew1) | exact HB.out)) hb); clear HB; have HB := n0_; clear n0_; (try clear hb); (try clear hb2); (try clear hk); (try clear hi)) | ((with_reducible refine gate_callee (f := 6) rfl ?_); refine goesL_ (some 47) rfl rfl Tryd.func6 (by kernel_rfl) rfl #[.string ((a0 ++ (⟨#[46]⟩ : ByteArray)) ++ t147), .string ((a0 ++ (⟨#[46]⟩ : ByteArray)) ++ t148)] rfl (by (try simp only [List.map_toArray, List.map_cons, List.map_nil]); first | done | rfl | (simp only [List.length_drop, List.length_take]; rfl)) ?_; (with_reducible refine (name_Cmp.calls kj3 ((a0 ++ (⟨#[46]⟩ : ByteArray)) ++ t147) ((a0 ++ (⟨#[46]⟩ : ByteArray)) ++ t148) t150 _ A21.out).mono ?_); rintro e w24 ⟨rfl, hb⟩; refine ⟨_, rfl, ?_⟩; have n0_ := Aside0.mk (below_step (by repeat (first | (with_reducible first | exact HB.out | apply below_alloc | apply pw_below_drewN | apply below_drew1) | exact HB.out)) hb); clear HB; have HB := n0_; clear n0_; (try clear hb); (try clear hb2); (try clear hk); (try clear hi)))
                  go_ret
                  exact ⟨by first | rfl | (simp [errW_none, errW_some] <;> rfl) | (simp [*, errW_none, errW_some] <;> rfl), by repeat (first | (with_reducible first | exact HB.out | apply below_alloc | apply pw_below_drewN | apply below_drew1) | exact HB.out)⟩
                · rw [if_neg c20] at H
                  have c20b0 : decide ((Go.bits .and .i64 a2 1048575) < (Go.bits .and .i64 a1 1048575)) = false := decide_eq_false c20
                  clear c20
                  replace H := Option.bind_eq_some_iff.mp H
                  obtain ⟨t151, A250, H⟩ := H
                  replace H : (if t151 = 0 then (if (a0 ++ (⟨#[46]⟩ : ByteArray)).size + 1 ≤ 9223372036854775807 then ((colloquylaw02_digits.f kj3 (Go.bits .and .i64 a1 1048575)).bind fun t152 => (if ((a0 ++ (⟨#[46]⟩ : ByteArray)) ++ (⟨#[48]⟩ : ByteArray)).size + t152.size ≤ 9223372036854775807 then ((name_Cmp.f kj3 ((a0 ++ (⟨#[46]⟩ : ByteArray)) ++ t147) (((a0 ++ (⟨#[46]⟩ : ByteArray)) ++ (⟨#[48]⟩ : ByteArray)) ++ t152)).bind fun t153 => (some (t153 == (-1)))) else (none))) else (none)) else (some false)) = some r := H
                  have A25 := Aside0.mk A250
                  clear A250
                  by_cases c26 : t151 = 0
                  · rw [if_pos c26] at H
                    have c26b0 : (t151 == 0) = true := beq_iff_eq.mpr c26
                    have c26b1 : (t151 != 0) = false := bne_eq_false_iff_eq.mpr c26
                    clear c26
                    by_cases c27 : (a0 ++ (⟨#[46]⟩ : ByteArray)).size + 1 ≤ 9223372036854775807
                    · rw [if_pos c27] at H
                      have c27b0 := eq_true c27
                      have c27b1 : decide ((a0 ++ (⟨#[46]⟩ : ByteArray)).size + 1 ≤ 9223372036854775807) = true := decide_eq_true c27
                      try have c27b2 : (9223372036854775807 < (a0 ++ (⟨#[46]⟩ : ByteArray)).size + 1) = False := eq_false (Nat.not_lt.2 c27)
                      try (have c27b3 := c27; simp only [ByteArray.size_append, show (⟨#[46]⟩ : ByteArray).size = 1 from rfl] at c27b3; replace c27b3 := eq_false (Nat.not_lt.2 c27b3))
                      replace H := Option.bind_eq_some_iff.mp H
                      obtain ⟨t152, A280, H⟩ := H
                      replace H : (if ((a0 ++ (⟨#[46]⟩ : ByteArray)) ++ (⟨#[48]⟩ : ByteArray)).size + t152.size ≤ 9223372036854775807 then ((name_Cmp.f kj3 ((a0 ++ (⟨#[46]⟩ : ByteArray)) ++ t147) (((a0 ++ (⟨#[46]⟩ : ByteArray)) ++ (⟨#[48]⟩ : ByteArray)) ++ t152)).bind fun t153 => (some (t153 == (-1)))) else (none)) = some r := H
                      have A28 := Aside0.mk A280
                      clear A280
                      obtain rfl : t152 = t147 := Option.some.inj (A28.out.symm.trans A11.out)
                      by_cases c29 : ((a0 ++ (⟨#[46]⟩ : ByteArray)) ++ (⟨#[48]⟩ : ByteArray)).size + t152.size ≤ 9223372036854775807
                      · rw [if_pos c29] at H
                        have c29b0 := eq_true c29
                        have c29b1 : decide (((a0 ++ (⟨#[46]⟩ : ByteArray)) ++ (⟨#[48]⟩ : ByteArray)).size + t152.size ≤ 9223372036854775807) = true := decide_eq_true c29
                        try have c29b2 : (9223372036854775807 < ((a0 ++ (⟨#[46]⟩ : ByteArray)) ++ (⟨#[48]⟩ : ByteArray)).size + t152.size) = False := eq_false (Nat.not_lt.2 c29)
                        try (have c29b3 := c29; simp only [ByteArray.size_append, show (⟨#[46]⟩ : ByteArray).size = 1 from rfl, show (⟨#[48]⟩ : ByteArray).size = 1 from rfl] at c29b3; replace c29b3 := eq_false (Nat.not_lt.2 c29b3))
                        replace H := Option.bind_eq_some_iff.mp H
                        obtain ⟨t153, A300, H⟩ := H
                        replace H : (some (t153 == (-1))) = some r := H
                        have A30 := Aside0.mk A300
                        clear A300
                        obtain rfl := Option.some.inj H
                        go_wp2_with (first | ((with_reducible refine gate_callee (f := 8) rfl ?_); refine goesL_ (some 27) rfl rfl Tryd.func8 (by kernel_rfl) rfl #[.int .i64 (Go.bits .and .i64 a1 1048575)] rfl (by (try simp only [List.map_toArray, List.map_cons, List.map_nil]); first | done | rfl | (simp only [List.length_drop, List.length_take]; rfl)) ?_; (with_reducible refine (colloquylaw02_digits.calls kj3 (Go.bits .and .i64 a1 1048575) t152 _ A11.out).mono ?_); rintro e w31 ⟨rfl, hb⟩; refine ⟨_, rfl, ?_⟩; have n0_ := Aside0.mk (below_step (by repeat (first | (with_reducible first | exact HB.out | apply below_alloc | apply pw_below_drewN | apply below_drew1) | exact HB.out)) hb); clear HB; have HB := n0_; clear n0_; (try clear hb); (try clear hb2); (try clear hk); (try clear hi)) | ((with_reducible refine gate_callee (f := 8) rfl ?_); refine goesL_ (some 31) rfl rfl Tryd.func8 (by kernel_rfl) rfl #[.int .i64 (Go.bits .and .i64 a2 1048575)] rfl (by (try simp only [List.map_toArray, List.map_cons, List.map_nil]); first | done | rfl | (simp only [List.length_drop, List.length_take]; rfl)) ?_; (with_reducible refine (colloquylaw02_digits.calls kj3 (Go.bits .and .i64 a2 1048575) t148 _ A13.out).mono ?_); rintro e w32 ⟨rfl, hb⟩; refine ⟨_, rfl, ?_⟩; have n0_ := Aside0.mk (below_step (by repeat (first | (with_reducible first | exact HB.out | apply below_alloc | apply pw_below_drewN | apply below_drew1) | exact HB.out)) hb); clear HB; have HB := n0_; clear n0_; (try clear hb); (try clear hb2); (try clear hk); (try clear hi)) | ((with_reducible refine gate_callee (f := 6) rfl ?_); refine goesL_ (some 51) rfl rfl Tryd.func6 (by kernel_rfl) rfl #[.string ((a0 ++ (⟨#[46]⟩ : ByteArray)) ++ t152), .string ((a0 ++ (⟨#[46]⟩ : ByteArray)) ++ t148)] rfl (by (try simp only [List.map_toArray, List.map_cons, List.map_nil]); first | done | rfl | (simp only [List.length_drop, List.length_take]; rfl)) ?_; (with_reducible refine (name_Cmp.calls kj3 ((a0 ++ (⟨#[46]⟩ : ByteArray)) ++ t152) ((a0 ++ (⟨#[46]⟩ : ByteArray)) ++ t148) t151 _ A25.out).mono ?_); rintro e w33 ⟨rfl, hb⟩; refine ⟨_, rfl, ?_⟩; have n0_ := Aside0.mk (below_step (by repeat (first | (with_reducible first | exact HB.out | apply below_alloc | apply pw_below_drewN | apply below_drew1) | exact HB.out)) hb); clear HB; have HB := n0_; clear n0_; (try clear hb); (try clear hb2); (try clear hk); (try clear hi)) | (go_at_call 8; (with_reducible refine (colloquylaw02_digits.calls kj3 (Go.bits .and .i64 a1 1048575) t152 _ A28.out).mono ?_); rintro e w34 ⟨rfl, hb⟩; have n0_ := Aside0.mk (below_step (by repeat (first | (with_reducible first | exact HB.out | apply below_alloc | apply pw_below_drewN | apply below_drew1) | exact HB.out)) hb); clear HB; have HB := n0_; clear n0_; (try clear hb); (try clear hb2); (try clear hk); (try clear hi)) | (go_at_call 6; (with_reducible refine (name_Cmp.calls kj3 ((a0 ++ (⟨#[46]⟩ : ByteArray)) ++ t152) (((a0 ++ (⟨#[46]⟩ : ByteArray)) ++ (⟨#[48]⟩ : ByteArray)) ++ t152) t153 _ A30.out).mono ?_); rintro e w35 ⟨rfl, hb⟩; have n0_ := Aside0.mk (below_step (by repeat (first | (with_reducible first | exact HB.out | apply below_alloc | apply pw_below_drewN | apply below_drew1) | exact HB.out)) hb); clear HB; have HB := n0_; clear n0_; (try clear hb); (try clear hb2); (try clear hk); (try clear hi)))
                        go_ret
                        exact ⟨by first | rfl | (simp [errW_none, errW_some] <;> rfl) | (simp [*, errW_none, errW_some] <;> rfl), by repeat (first | (with_reducible first | exact HB.out | apply below_alloc | apply pw_below_drewN | apply below_drew1) | exact HB.out)⟩
                      · rw [if_neg c29] at H
                        exact absurd H (by simp)
                    · rw [if_neg c27] at H
                      exact absurd H (by simp)
                  · rw [if_neg c26] at H
                    have c26b0 : (t151 == 0) = false := beq_eq_false_iff_ne.mpr c26
                    have c26b1 : (t151 != 0) = true := bne_iff_ne.mpr c26
                    obtain rfl := Option.some.inj H
                    go_wp2_with (first | ((with_reducible refine gate_callee (f := 8) rfl ?_); refine goesL_ (some 27) rfl rfl Tryd.func8 (by kernel_rfl) rfl #[.int .i64 (Go.bits .and .i64 a1 1048575)] rfl (by (try simp only [List.map_toArray, List.map_cons, List.map_nil]); first | done | rfl | (simp only [List.length_drop, List.length_take]; rfl)) ?_; (with_reducible refine (colloquylaw02_digits.calls kj3 (Go.bits .and .i64 a1 1048575) t147 _ A11.out).mono ?_); rintro e w36 ⟨rfl, hb⟩; refine ⟨_, rfl, ?_⟩; have n0_ := Aside0.mk (below_step (by repeat (first | (with_reducible first | exact HB.out | apply below_alloc | apply pw_below_drewN | apply below_drew1) | exact HB.out)) hb); clear HB; have HB := n0_; clear n0_; (try clear hb); (try clear hb2); (try clear hk); (try clear hi)) | ((with_reducible refine gate_callee (f := 8) rfl ?_); refine goesL_ (some 31) rfl rfl Tryd.func8 (by kernel_rfl) rfl #[.int .i64 (Go.bits .and .i64 a2 1048575)] rfl (by (try simp only [List.map_toArray, List.map_cons, List.map_nil]); first | done | rfl | (simp only [List.length_drop, List.length_take]; rfl)) ?_; (with_reducible refine (colloquylaw02_digits.calls kj3 (Go.bits .and .i64 a2 1048575) t148 _ A13.out).mono ?_); rintro e w37 ⟨rfl, hb⟩; refine ⟨_, rfl, ?_⟩; have n0_ := Aside0.mk (below_step (by repeat (first | (with_reducible first | exact HB.out | apply below_alloc | apply pw_below_drewN | apply below_drew1) | exact HB.out)) hb); clear HB; have HB := n0_; clear n0_; (try clear hb); (try clear hb2); (try clear hk); (try clear hi)) | ((with_reducible refine gate_callee (f := 6) rfl ?_); refine goesL_ (some 51) rfl rfl Tryd.func6 (by kernel_rfl) rfl #[.string ((a0 ++ (⟨#[46]⟩ : ByteArray)) ++ t147), .string ((a0 ++ (⟨#[46]⟩ : ByteArray)) ++ t148)] rfl (by (try simp only [List.map_toArray, List.map_cons, List.map_nil]); first | done | rfl | (simp only [List.length_drop, List.length_take]; rfl)) ?_; (with_reducible refine (name_Cmp.calls kj3 ((a0 ++ (⟨#[46]⟩ : ByteArray)) ++ t147) ((a0 ++ (⟨#[46]⟩ : ByteArray)) ++ t148) t151 _ A25.out).mono ?_); rintro e w38 ⟨rfl, hb⟩; refine ⟨_, rfl, ?_⟩; have n0_ := Aside0.mk (below_step (by repeat (first | (with_reducible first | exact HB.out | apply below_alloc | apply pw_below_drewN | apply below_drew1) | exact HB.out)) hb); clear HB; have HB := n0_; clear n0_; (try clear hb); (try clear hb2); (try clear hk); (try clear hi)))
                    go_ret
                    exact ⟨by first | rfl | (simp [errW_none, errW_some] <;> rfl) | (simp [*, errW_none, errW_some] <;> rfl), by repeat (first | (with_reducible first | exact HB.out | apply below_alloc | apply pw_below_drewN | apply below_drew1) | exact HB.out)⟩
            · rw [if_neg c14] at H
              exact absurd H (by simp)
          · rw [if_neg c12] at H
            exact absurd H (by simp)
        · rw [if_neg c10] at H
          exact absurd H (by simp)

/-- THE ONE PURE STATEMENT of colloquylaw02_NameNumbers: yours. -/
def colloquylaw02_NameNumbers.Pure : Prop := ∀ (a0 : ByteArray) (a1 : Int) (a2 : Int), a0.size ≤ 140737488351232 → (Lit.int .i64 a1).wf = true → (Lit.int .i64 a2).wf = true → ∃ k, colloquylaw02_NameNumbers.f k a0 a1 a2 = some true
theorem colloquylaw02_NameNumbers.walk (P : colloquylaw02_NameNumbers.Pure) (a0 : ByteArray) (a1 : Int) (a2 : Int) (w : World) (w0 : a0.size ≤ 140737488351232) (w1 : (Lit.int .i64 a1).wf = true) (w2 : (Lit.int .i64 a2).wf = true) :
    Calls Tryd.prog 5 #[.string a0, .int .i64 a1, .int .i64 a2] w fun e w' => e = .returned (.bool true) ∧ Below w.heap.size w w' := by
  obtain ⟨k, h⟩ := P a0 a1 a2 w0 w1 w2
  refine (colloquylaw02_NameNumbers.calls k a0 a1 a2 true w h).mono ?_
  rintro e w' ⟨rfl, hd⟩
  exact ⟨rfl, hd⟩

end Go.Proofs.YtoinmpjjmkpamaaDoor.PA
