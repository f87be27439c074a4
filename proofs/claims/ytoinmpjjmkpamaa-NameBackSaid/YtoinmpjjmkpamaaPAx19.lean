/- A Go function of the translation as a plain Lean function, with the proof that the call answers just so. Printed by a program of this session; Lean checks it. -/
import Derived.Test.YtoinmpjjmkpamaaPAx0
import Derived.Test.YtoinmpjjmkpamaaPAx15
import Derived.Test.YtoinmpjjmkpamaaPAx18
import Derived.Test.YtoinmpjjmkpamaaHNWrite
namespace Go.Proofs.Ytoinmpjjmkpamaa.PA
open Go.RowKit Go.Proofs.YtoinmpjjmkpamaaW.PrintWords Go.Proofs.YtoinmpjjmkpamaaW.PrintLast Go.Proofs.YtoinmpjjmkpamaaW.PrintMore
attribute [local go_sem] max2_int min2_int max_two min_two max_three min_three max_four min_four   -- for this text's walks alone
set_option linter.unusedVariables false
set_option linter.unusedSimpArgs false

/-! ### colloquylaw02_NameWords: function 4 -/
def colloquylaw02_NameWords.f (k : Nat) (a0 : ByteArray) : Option (Bool) := (name_Word.f k (⟨#[97, 45, 49]⟩ : ByteArray)).bind fun t127 => (if t127 = true then ((name_Word.f k (⟨#[49, 97]⟩ : ByteArray)).bind fun t128 => (if t128 = true then (some false) else ((name_Word.f k a0).bind fun t129 => ((colloquyref02_Word.f k a0).bind fun t130 => (if (t129 == t130) = true then ((name_Word.f k a0).bind fun t131 => (if t131 = true then ((name_Write.f a0).bind fun t132 => (some (t132.toList == a0.toList))) else (some true))) else (some false)))))) else (some false))
theorem colloquylaw02_NameWords.mono : ∀ a0 k, LeO (colloquylaw02_NameWords.f k a0) (colloquylaw02_NameWords.f (k + 1) a0) := by
  intro a0 k
  unfold colloquylaw02_NameWords.f
  repeat' first
      | (with_reducible exact colloquyref02_Word.mono _ _)
      | (with_reducible exact name_Word.mono _ _)
      | (with_reducible exact LeO.refl _)
      | (with_reducible exact LeO.none _)
      | (with_reducible refine LeO.ite ?_ ?_)
      | (with_reducible refine LeO.bind ?_ (fun _ => ?_))
      | exact colloquyref02_Word.mono _ _
      | exact name_Word.mono _ _
      | exact LeO.none _
      | refine LeO.ite ?_ ?_
      | refine LeO.bind ?_ (fun _ => ?_)
set_option maxHeartbeats 8000000 in
set_option maxRecDepth 100000 in
theorem colloquylaw02_NameWords.calls (k : Nat) (a0 : ByteArray) (r : Bool) (w : World) (h : colloquylaw02_NameWords.f k a0 = some r) :
    Calls Try.prog 4 #[.string a0] w fun e w' => e = .returned (.bool r) ∧ Below w.heap.size w w' := by
  have HB := Aside0.mk (Below.refl w.heap.size w)
  have H : ((name_Word.f k (⟨#[97, 45, 49]⟩ : ByteArray)).bind fun t127 => (if t127 = true then ((name_Word.f k (⟨#[49, 97]⟩ : ByteArray)).bind fun t128 => (if t128 = true then (some false) else ((name_Word.f k a0).bind fun t129 => ((colloquyref02_Word.f k a0).bind fun t130 => (if (t129 == t130) = true then ((name_Word.f k a0).bind fun t131 => (if t131 = true then ((name_Write.f a0).bind fun t132 => (some (t132.toList == a0.toList))) else (some true))) else (some false)))))) else (some false))) = some r := h
  clear h
  replace H := Option.bind_eq_some_iff.mp H
  obtain ⟨t127, A20, H⟩ := H
  replace H : (if t127 = true then ((name_Word.f k (⟨#[49, 97]⟩ : ByteArray)).bind fun t128 => (if t128 = true then (some false) else ((name_Word.f k a0).bind fun t129 => ((colloquyref02_Word.f k a0).bind fun t130 => (if (t129 == t130) = true then ((name_Word.f k a0).bind fun t131 => (if t131 = true then ((name_Write.f a0).bind fun t132 => (some (t132.toList == a0.toList))) else (some true))) else (some false)))))) else (some false)) = some r := H
  have A2 := Aside0.mk A20
  clear A20
  by_cases c3 : t127 = true
  · subst c3
    have H1 : ((name_Word.f k (⟨#[49, 97]⟩ : ByteArray)).bind fun t128 => (if t128 = true then (some false) else ((name_Word.f k a0).bind fun t129 => ((colloquyref02_Word.f k a0).bind fun t130 => (if (t129 == t130) = true then ((name_Word.f k a0).bind fun t131 => (if t131 = true then ((name_Write.f a0).bind fun t132 => (some (t132.toList == a0.toList))) else (some true))) else (some false)))))) = some r := by rw [if_pos rfl] at H; exact H
    clear H
    have H := H1
    clear H1
    replace H := Option.bind_eq_some_iff.mp H
    obtain ⟨t128, A40, H⟩ := H
    replace H : (if t128 = true then (some false) else ((name_Word.f k a0).bind fun t129 => ((colloquyref02_Word.f k a0).bind fun t130 => (if (t129 == t130) = true then ((name_Word.f k a0).bind fun t131 => (if t131 = true then ((name_Write.f a0).bind fun t132 => (some (t132.toList == a0.toList))) else (some true))) else (some false))))) = some r := H
    have A4 := Aside0.mk A40
    clear A40
    by_cases c5 : t128 = true
    · subst c5
      have H1 : (some false) = some r := by rw [if_pos rfl] at H; exact H
      clear H
      have H := H1
      clear H1
      obtain rfl := Option.some.inj H
      go_enter Try.func4, Try.ntmps4
      go_wp2_with (first | ((with_reducible refine gate_callee (f := 12) rfl ?_); refine goesL_ (some 3) rfl rfl Try.func12 (by kernel_rfl) rfl #[.string (⟨#[97, 45, 49]⟩ : ByteArray)] rfl (by (try simp only [List.map_toArray, List.map_cons, List.map_nil]); first | done | rfl | (simp only [List.length_drop, List.length_take]; rfl)) ?_; (with_reducible refine (name_Word.calls k (⟨#[97, 45, 49]⟩ : ByteArray) true _ A2.out).mono ?_); rintro e w' ⟨rfl, ⟨nd, rfl⟩⟩; refine ⟨_, rfl, ?_⟩) | (go_at_call 12; (with_reducible refine (name_Word.calls k (⟨#[49, 97]⟩ : ByteArray) true _ A4.out).mono ?_); rintro e w' ⟨rfl, ⟨nd, rfl⟩⟩))
      go_ret
      exact ⟨by first | rfl | (simp [errW_none, errW_some] <;> rfl) | (simp [*, errW_none, errW_some] <;> rfl), by repeat (first | (with_reducible first | exact HB.out | apply below_alloc | apply pw_below_drewN | apply below_drew1) | exact HB.out)⟩
    · replace c5 := Bool.eq_false_iff.mpr c5
      subst c5
      have H1 : ((name_Word.f k a0).bind fun t129 => ((colloquyref02_Word.f k a0).bind fun t130 => (if (t129 == t130) = true then ((name_Word.f k a0).bind fun t131 => (if t131 = true then ((name_Write.f a0).bind fun t132 => (some (t132.toList == a0.toList))) else (some true))) else (some false)))) = some r := by rw [if_neg (show ¬ (false = true) by decide)] at H; exact H
      clear H
      have H := H1
      clear H1
      replace H := Option.bind_eq_some_iff.mp H
      obtain ⟨t129, A60, H⟩ := H
      replace H : ((colloquyref02_Word.f k a0).bind fun t130 => (if (t129 == t130) = true then ((name_Word.f k a0).bind fun t131 => (if t131 = true then ((name_Write.f a0).bind fun t132 => (some (t132.toList == a0.toList))) else (some true))) else (some false))) = some r := H
      have A6 := Aside0.mk A60
      clear A60
      replace H := Option.bind_eq_some_iff.mp H
      obtain ⟨t130, A70, H⟩ := H
      replace H : (if (t129 == t130) = true then ((name_Word.f k a0).bind fun t131 => (if t131 = true then ((name_Write.f a0).bind fun t132 => (some (t132.toList == a0.toList))) else (some true))) else (some false)) = some r := H
      have A7 := Aside0.mk A70
      clear A70
      by_cases c8 : (t129 == t130) = true
      · rw [if_pos c8] at H
        have c8b0 : (t129 == t130) = true := c8
        (try (have c8b1 : decide (t129 = t130) = true := by simpa using c8))
        (try (have c8b2 : (t129 == t130) = true := by simpa using c8))
        clear c8
        replace H := Option.bind_eq_some_iff.mp H
        obtain ⟨t131, A90, H⟩ := H
        replace H : (if t131 = true then ((name_Write.f a0).bind fun t132 => (some (t132.toList == a0.toList))) else (some true)) = some r := H
        have A9 := Aside0.mk A90
        clear A90
        obtain rfl : t131 = t129 := Option.some.inj (A9.out.symm.trans A6.out)
        by_cases c10 : t131 = true
        · subst c10
          have H1 : ((name_Write.f a0).bind fun t132 => (some (t132.toList == a0.toList))) = some r := by rw [if_pos rfl] at H; exact H
          clear H
          have H := H1
          clear H1
          replace H := Option.bind_eq_some_iff.mp H
          obtain ⟨t132, A110, H⟩ := H
          replace H : (some (t132.toList == a0.toList)) = some r := H
          have A11 := Aside0.mk A110
          clear A110
          obtain rfl := Option.some.inj H
          go_enter Try.func4, Try.ntmps4
          go_wp2_with (first | ((with_reducible refine gate_callee (f := 12) rfl ?_); refine goesL_ (some 3) rfl rfl Try.func12 (by kernel_rfl) rfl #[.string (⟨#[97, 45, 49]⟩ : ByteArray)] rfl (by (try simp only [List.map_toArray, List.map_cons, List.map_nil]); first | done | rfl | (simp only [List.length_drop, List.length_take]; rfl)) ?_; (with_reducible refine (name_Word.calls k (⟨#[97, 45, 49]⟩ : ByteArray) true _ A2.out).mono ?_); rintro e w' ⟨rfl, ⟨nd, rfl⟩⟩; refine ⟨_, rfl, ?_⟩) | (go_at_call 12; (with_reducible refine (name_Word.calls k (⟨#[49, 97]⟩ : ByteArray) false _ A4.out).mono ?_); rintro e w' ⟨rfl, ⟨nd, rfl⟩⟩) | (go_at_call 12; (with_reducible refine (name_Word.calls k a0 true _ A6.out).mono ?_); rintro e w' ⟨rfl, ⟨nd, rfl⟩⟩) | (go_at_call 13; (with_reducible refine (colloquyref02_Word.calls k a0 t130 _ A7.out).mono ?_); rintro e w' ⟨rfl, ⟨nd, rfl⟩⟩) | (go_at_call 12; (with_reducible refine (name_Word.calls k a0 true _ A9.out).mono ?_); rintro e w' ⟨rfl, ⟨nd, rfl⟩⟩) | (go_at_call 8; (with_reducible refine (name_Write.calls a0 t132 _ A11.out).mono ?_); rintro e w12 ⟨rfl, hb⟩; have n0_ := Aside0.mk (below_step (by repeat (first | (with_reducible first | exact HB.out | apply below_alloc | apply pw_below_drewN | apply below_drew1) | exact HB.out)) hb); clear HB; have HB := n0_; clear n0_; (try clear hb); (try clear hb2); (try clear hk); (try clear hi)))
          go_ret
          exact ⟨by first | rfl | (simp [errW_none, errW_some] <;> rfl) | (simp [*, errW_none, errW_some] <;> rfl), by repeat (first | (with_reducible first | exact HB.out | apply below_alloc | apply pw_below_drewN | apply below_drew1) | exact HB.out)⟩
        · replace c10 := Bool.eq_false_iff.mpr c10
          subst c10
          have H1 : (some true) = some r := by rw [if_neg (show ¬ (false = true) by decide)] at H; exact H
          clear H
          have H := H1
          clear H1
          obtain rfl := Option.some.inj H
          go_enter Try.func4, Try.ntmps4
          go_wp2_with (first | ((with_reducible refine gate_callee (f := 12) rfl ?_); refine goesL_ (some 3) rfl rfl Try.func12 (by kernel_rfl) rfl #[.string (⟨#[97, 45, 49]⟩ : ByteArray)] rfl (by (try simp only [List.map_toArray, List.map_cons, List.map_nil]); first | done | rfl | (simp only [List.length_drop, List.length_take]; rfl)) ?_; (with_reducible refine (name_Word.calls k (⟨#[97, 45, 49]⟩ : ByteArray) true _ A2.out).mono ?_); rintro e w' ⟨rfl, ⟨nd, rfl⟩⟩; refine ⟨_, rfl, ?_⟩) | (go_at_call 12; (with_reducible refine (name_Word.calls k (⟨#[49, 97]⟩ : ByteArray) false _ A4.out).mono ?_); rintro e w' ⟨rfl, ⟨nd, rfl⟩⟩) | (go_at_call 12; (with_reducible refine (name_Word.calls k a0 false _ A6.out).mono ?_); rintro e w' ⟨rfl, ⟨nd, rfl⟩⟩) | (go_at_call 13; (with_reducible refine (colloquyref02_Word.calls k a0 t130 _ A7.out).mono ?_); rintro e w' ⟨rfl, ⟨nd, rfl⟩⟩) | (go_at_call 12; (with_reducible refine (name_Word.calls k a0 false _ A9.out).mono ?_); rintro e w' ⟨rfl, ⟨nd, rfl⟩⟩))
          go_ret
          exact ⟨by first | rfl | (simp [errW_none, errW_some] <;> rfl) | (simp [*, errW_none, errW_some] <;> rfl), by repeat (first | (with_reducible first | exact HB.out | apply below_alloc | apply pw_below_drewN | apply below_drew1) | exact HB.out)⟩
      · rw [if_neg c8] at H
        have c8b0 : (t129 == t130) = false := by simpa using c8
        (try (have c8b1 : decide (t129 = t130) = false := by simpa using c8))
        (try (have c8b2 : (t129 == t130) = false := by simpa using c8))
        (try (have c8b3 : ¬ (t129 = t130) := by simpa using c8))
        clear c8
        obtain rfl := Option.some.inj H
        go_enter Try.func4, Try.ntmps4
        go_wp2_with (first | ((with_reducible refine gate_callee (f := 12) rfl ?_); refine goesL_ (some 3) rfl rfl Try.func12 (by kernel_rfl) rfl #[.string (⟨#[97, 45, 49]⟩ : ByteArray)] rfl (by (try simp only [List.map_toArray, List.map_cons, List.map_nil]); first | done | rfl | (simp only [List.length_drop, List.length_take]; rfl)) ?_; (with_reducible refine (name_Word.calls k (⟨#[97, 45, 49]⟩ : ByteArray) true _ A2.out).mono ?_); rintro e w' ⟨rfl, ⟨nd, rfl⟩⟩; refine ⟨_, rfl, ?_⟩) | (go_at_call 12; (with_reducible refine (name_Word.calls k (⟨#[49, 97]⟩ : ByteArray) false _ A4.out).mono ?_); rintro e w' ⟨rfl, ⟨nd, rfl⟩⟩) | (go_at_call 12; (with_reducible refine (name_Word.calls k a0 t129 _ A6.out).mono ?_); rintro e w' ⟨rfl, ⟨nd, rfl⟩⟩) | (go_at_call 13; (with_reducible refine (colloquyref02_Word.calls k a0 t130 _ A7.out).mono ?_); rintro e w' ⟨rfl, ⟨nd, rfl⟩⟩))
        go_ret
        exact ⟨by first | rfl | (simp [errW_none, errW_some] <;> rfl) | (simp [*, errW_none, errW_some] <;> rfl), by repeat (first | (with_reducible first | exact HB.out | apply below_alloc | apply pw_below_drewN | apply below_drew1) | exact HB.out)⟩
  · replace c3 := Bool.eq_false_iff.mpr c3
    subst c3
    have H1 : (some false) = some r := by rw [if_neg (show ¬ (false = true) by decide)] at H; exact H
    clear H
    have H := H1
    clear H1
    obtain rfl := Option.some.inj H
    go_enter Try.func4, Try.ntmps4
    go_wp2_with (first | ((with_reducible refine gate_callee (f := 12) rfl ?_); refine goesL_ (some 3) rfl rfl Try.func12 (by kernel_rfl) rfl #[.string (⟨#[97, 45, 49]⟩ : ByteArray)] rfl (by (try simp only [List.map_toArray, List.map_cons, List.map_nil]); first | done | rfl | (simp only [List.length_drop, List.length_take]; rfl)) ?_; (with_reducible refine (name_Word.calls k (⟨#[97, 45, 49]⟩ : ByteArray) false _ A2.out).mono ?_); rintro e w' ⟨rfl, ⟨nd, rfl⟩⟩; refine ⟨_, rfl, ?_⟩))
    go_ret
    exact ⟨by first | rfl | (simp [errW_none, errW_some] <;> rfl) | (simp [*, errW_none, errW_some] <;> rfl), by repeat (first | (with_reducible first | exact HB.out | apply below_alloc | apply pw_below_drewN | apply below_drew1) | exact HB.out)⟩

/-- THE ONE PURE STATEMENT of colloquylaw02_NameWords: yours. -/
def colloquylaw02_NameWords.Pure : Prop := ∀ (a0 : ByteArray), a0.size ≤ 140737488351232 → ∃ k, colloquylaw02_NameWords.f k a0 = some true
theorem colloquylaw02_NameWords.walk (P : colloquylaw02_NameWords.Pure) (a0 : ByteArray) (w : World) (w0 : a0.size ≤ 140737488351232) :
    Calls Try.prog 4 #[.string a0] w fun e w' => e = .returned (.bool true) ∧ Below w.heap.size w w' := by
  obtain ⟨k, h⟩ := P a0 w0
  refine (colloquylaw02_NameWords.calls k a0 true w h).mono ?_
  rintro e w' ⟨rfl, hd⟩
  exact ⟨rfl, hd⟩

end Go.Proofs.Ytoinmpjjmkpamaa.PA
