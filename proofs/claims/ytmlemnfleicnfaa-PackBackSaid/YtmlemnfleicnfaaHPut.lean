/- pack.put: a number's groups of seven bits behind a row of the call's own. -/
import Derived.Test.YtmlemnfleicnfaaHWords
import Derived.Scope
import Derived.ScopeJumps
import Derived.FnLit
namespace Go.Proofs.Ytmlemnfleicnfaa.PA
open Go.RowKit Go.Proofs.YtmlemnfleicnfaaW.PrintWords Go.Proofs.YtmlemnfleicnfaaW.PrintLast Go.Proofs.YtmlemnfleicnfaaW.PrintMore
attribute [local go_sem] max2_int min2_int max_two min_two

theorem put_info5 : (Try.prog.info? 5).map (fun i => (i.zero, i.size, i.bytes)) = some (some (.int .u8 0), 1, 1) := by kernel_rfl
theorem kept_grown2 {w W w1 : World} {S : Nat → Prop} {row : Option Nat} (hk : Kept w W S) (hg : W.grownBy w1 row) (hr : ∀ k, row = some k → S k ∨ w.heap.size ≤ k) : Kept w w1 S :=
  ⟨Nat.le_trans hk.1 hg.size, fun i hi hs => by
    rw [hg.block i (Nat.lt_of_lt_of_le hi hk.1) (fun e => by
      rcases hr i e.symm with h | h
      · exact hs h
      · omega)]
    exact hk.2 i hi hs⟩

theorem wp_scope_jumps_pass {P : Program} {a : Act} {w : World} {Q : Exit → Act → World → Prop} {c rest : Code} (l : Nat) (J : Act → World → Prop) (μ : Act → World → Nat) (hf : findLabel c l = some (Code.seq .skip rest))
    (first : (∀ a w, J a w → rest.wp P (Exit.jump l J Q) a w) → c.wp P (Exit.jump l J Q) a w)
    (pass : ∀ a w, J a w → rest.wp P (Exit.jump l (fun a' w' => J a' w' ∧ μ a' w' < μ a w) Q) a w) : (Code.scope c).wp P Q a w := by
  refine wp_scope_jumps l J μ hf (first fun a w hJ => ?_) (fun a w hJ => wp_seq (wp_skip (pass a w hJ)))
  intro b k cs
  obtain ⟨e, a', w', hq, harr⟩ := pass a w hJ b k cs
  refine ⟨e, a', w', ?_, harr⟩
  cases e <;> first | exact hq | exact ⟨hq.1, hq.2.1⟩

/-- A number's groups of seven bits, the lowest first; so many groups at the most. -/
def putN : Nat → Nat → List Int
  | 0, _ => []
  | f + 1, u => if 127 < u then ((u % 128 + 128 : Nat) : Int) :: putN f (u / 128) else [(u : Int)]
def numOf (n : Int) : Nat := (mn (mx n 0) 4611686018427387904).toNat
def pack_put.f (l0 : List Int) (a1 : Int) : Option (List Int) := if l0.length < 140737488355300 then some (l0 ++ putN 9 (numOf a1)) else none
theorem or128_all : ∀ x : Fin 256, Go.bits .or .u8 ((x.val : Nat) : Int) 128 = ((x.val % 128 + 128 : Nat) : Int) := by decide +kernel
theorem or128 (u : Nat) : Go.bits .or .u8 (((u : Nat) : Int) % 256) 128 = ((u % 128 + 128 : Nat) : Int) := by
  have h := or128_all ⟨u % 256, Nat.mod_lt _ (by decide)⟩
  have e : ((u : Int) % 256) = ((u % 256 : Nat) : Int) := by omega
  rw [e, h]
  have : u % 256 % 128 = u % 128 := by omega
  show (((u % 256 % 128 + 128 : Nat)) : Int) = _
  rw [this]

set_option maxHeartbeats 8000000 in
set_option maxRecDepth 100000 in
theorem pack_put.calls (P0_ : Nat → Prop) (u9000_ : Value) (l0 : List Int) (a1 : Int) (r : List Int) (w0 w : World) (hB : Below w0.heap.size w0 w) (ho0 : Kd.R (Kd.int .u8) 5 w w0.heap.size P0_ u9000_ l0) (h : pack_put.f l0 a1 = some r) :
    Calls Try.prog 55 #[u9000_, .int .i64 a1] w fun e w' => ∃ v0_ : Value, e = .returned (v0_) ∧ Kd.R (Kd.int .u8) 5 w' w0.heap.size (fun k_ => (P0_ k_ ∨ w.heap.size ≤ k_)) v0_ r ∧ Below w0.heap.size w0 w' ∧ Kept w w' (fun k_ => P0_ k_) := by
  have hl : l0.length < 140737488355300 := by
    unfold pack_put.f at h; split at h
    · assumption
    · cases h
  have hr : l0 ++ putN 9 (numOf a1) = r := by
    unfold pack_put.f at h; rw [if_pos hl] at h; exact Option.some.inj h
  clear h
  have HR := Aside0.mk hr
  have HL := Aside0.mk hl
  clear hr hl
  have HO0 := Aside0.mk (show Kd.R (Kd.int .u8) 5 w w0.heap.size (fun k_ => (P0_ k_ ∨ w.heap.size ≤ k_)) u9000_ l0 from Kd.R_mono ho0 (fun k_ hk => (.inl hk)))
  have HK0 := Aside0.mk (Kept.refl w (fun k_ => P0_ k_))
  have HB0 := Aside0.mk hB
  have HW0 := Aside0.mk hB.size
  clear hB ho0
  have hcase : (a1 < 0 ∧ numOf a1 = 0) ∨ (0 ≤ a1 ∧ a1 ≤ 4611686018427387904 ∧ numOf a1 = a1.toNat) ∨ (4611686018427387904 < a1 ∧ numOf a1 = 4611686018427387904) := by
    unfold numOf mn mx
    split <;> split <;> omega
  have hn : numOf a1 ≤ 4611686018427387904 := by
    have h1 : mn (mx a1 0) 4611686018427387904 ≤ 4611686018427387904 := by unfold mn mx; split <;> split <;> omega
    unfold numOf
    omega
  have HX0 := Aside0.mk (show l0 ++ putN 9 (numOf a1) = r ∧ numOf a1 < 128 ^ 9 ∧ l0.length + 8 < 140737488355320 from ⟨HR.out, by omega, by have := HL.out; omega⟩)
  clear HR HL hn
  go_enter Try.func55, Try.ntmps55
  go_wp2
  refine wp_scope_jumps_pass 0 (fun a' W => ∃ (v : Value) (xs : List Int) (u f : Nat) (x1 x2 x3 x4 x6 x7 x8 x9 x10 x11 x12 x13 x14 x15 x16 x17 x18 x19 x20 x21 x22 x23 x24 : Value),
    a' = { tmps := #[v, x1, x2, x3, x4, .int .u64 (u : Int), x6, x7, x8, x9, x10, x11, x12, x13, x14, x15, x16, x17, x18, x19, x20, x21, x22, x23, x24], defers := [] } ∧
    Aside0 (xs ++ putN (f + 1) u = r ∧ u < 128 ^ (f + 1) ∧ xs.length + f < 140737488355320) ∧ Aside0 (Kd.R (Kd.int .u8) 5 W w0.heap.size (fun k_ => (P0_ k_ ∨ w.heap.size ≤ k_)) v xs) ∧ Aside0 (Below w0.heap.size w0 W) ∧ Aside0 (Kept w W (fun k_ => P0_ k_)))
    (fun a' _ => match a'.tmps.getD 5 undef with | .int _ n => n.toNat | _ => 0) rfl ?_ ?_
  · intro first
    rcases hcase with ⟨hlt, he⟩ | ⟨hge, hle, he⟩ | ⟨hgt, he⟩
    rotate_left
    · obtain ⟨n, rfl⟩ := Int.eq_ofNat_of_zero_le hge
      rw [Int.toNat_natCast] at he
      rw [he] at HX0
      clear he
      go_wp2
      go_step3
      rename_i hk
      exact hk _ _ (first _ _ ⟨_, l0, n, 8, _, _, _, _, _, _, _, _, _, _, _, _, _, _, _, _, _, _, _, _, _, _, _, rfl, HX0, HO0, HB0, HK0⟩)
    all_goals rw [he] at HX0
    all_goals clear he
    all_goals go_wp2
    all_goals go_step3
    all_goals rename_i hk
    · exact hk _ _ (first _ _ ⟨_, l0, (4611686018427387904 : Nat), 8, _, _, _, _, _, _, _, _, _, _, _, _, _, _, _, _, _, _, _, _, _, _, _, rfl, HX0, HO0, HB0, HK0⟩)
    · exact hk _ _ (first _ _ ⟨_, l0, (0 : Nat), 8, _, _, _, _, _, _, _, _, _, _, _, _, _, _, _, _, _, _, _, _, _, _, _, rfl, HX0, HO0, HB0, HK0⟩)
  · rintro a' W ⟨v, xs, u, f, x1, x2, x3, x4, x6, x7, x8, x9, x10, x11, x12, x13, x14, x15, x16, x17, x18, x19, x20, x21, x22, x23, x24, rfl, HX, HO, HB, HK⟩
    clear HX0 HO0 HB0 HK0 hcase
    cases f with
    | zero =>
      have hgt : ¬ 127 < u := by have := HX.out.2.1; omega
      have hdec : decide (((u : Nat) : Int) > 127) = false := by simp; omega
      have HY := Aside0.mk (show xs ++ [(u : Int)] = r from by
        obtain ⟨h1, h2, h3⟩ := HX.out
        rw [← h1, putN, if_neg hgt])
      have hm : ((u : Int) % 256) = (u : Int) := by omega
      clear hgt
      go_wp2_with (first | ((with_reducible refine gate_builtin (b := .append) (xs := #[.tmp 20, .tmp 23]) rfl ?_); at_builtin; refine Kd.R_append (Kd.int .u8) (w0 := w0) w0.heap.size rfl (.tmp 20) (.tmp 23) 22 5 (.int .u8 0) 1 rfl Try.underlying22 put_info5 rfl (by decide) (by omega) v xs ((u : Int)) [.int .u8 ((u : Int))] (fun k_ => (P0_ k_ ∨ w.heap.size ≤ k_)) (fun _ => False) rfl rfl ?aP (fun _ hk => hk.elim) ?aF ?aO ?aB ?aS ?aL ?_; (case aP => exact rfl); (case aB => exact HB.out); (case aF => exact (fun k_ hk => .inr (Nat.le_trans HK.out.1 hk))); (case aO => exact HO.out); (case aS => exact HB.out.size); (case aL => have := HX.out.2.2; omega); intro v1 w1 ho1 hb1 hg1 hat1; have HK1 := Aside0.mk (kept_grown2 HK.out hg1 (fun k_ e_ => HO.out.1 k_ e_)); have HO1 := Aside0.mk ho1; have HB1 := Aside0.mk hb1; clear ho1 hb1 hg1 hat1))
      simp only [Exit.jump]
      go_ret
      refine ⟨_, rfl, ?_, HB1.out, HK1.out⟩
      rw [← HY.out]
      exact HO1.out
    | succ f =>
    by_cases hgt : 127 < u
    · have ho := or128 u
      have hdec : decide (((u : Nat) : Int) > 127) = true := by simp; omega
      have HY := Aside0.mk (show (xs ++ [((u % 128 + 128 : Nat) : Int)]) ++ putN (f + 1) (u / 128) = r ∧ u / 128 < 128 ^ (f + 1) ∧ (xs ++ [((u % 128 + 128 : Nat) : Int)]).length + f < 140737488355320 from by
        obtain ⟨h1, h2, h3⟩ := HX.out
        refine ⟨?_, ?_, by simp; omega⟩
        · rw [← h1, show putN (f + 1 + 1) u = ((u % 128 + 128 : Nat) : Int) :: putN (f + 1) (u / 128) from by conv => lhs; unfold putN; rw [if_pos hgt]]; simp
        · rw [Nat.pow_succ] at h2; omega)
      clear hgt
      go_wp2_with (first | ((with_reducible refine gate_builtin (b := .append) (xs := #[.tmp 12, .tmp 16]) rfl ?_); at_builtin; refine Kd.R_append (Kd.int .u8) (w0 := w0) w0.heap.size rfl (.tmp 12) (.tmp 16) 22 5 (.int .u8 0) 1 rfl Try.underlying22 put_info5 rfl (by decide) (by omega) v xs (((u % 128 + 128 : Nat) : Int)) [.int .u8 (((u % 128 + 128 : Nat) : Int))] (fun k_ => (P0_ k_ ∨ w.heap.size ≤ k_)) (fun _ => False) rfl rfl ?aP (fun _ hk => hk.elim) ?aF ?aO ?aB ?aS ?aL ?_; (case aP => exact rfl); (case aB => exact HB.out); (case aF => exact (fun k_ hk => .inr (Nat.le_trans HK.out.1 hk))); (case aO => exact HO.out); (case aS => exact HB.out.size); (case aL => have := HX.out.2.2; omega); intro v1 w1 ho1 hb1 hg1 hat1; have HK1 := Aside0.mk (kept_grown2 HK.out hg1 (fun k_ e_ => HO.out.1 k_ e_)); have HO1 := Aside0.mk ho1; have HB1 := Aside0.mk hb1; clear ho1 hb1 hg1 hat1))
      go_step3
      refine ⟨rfl, ?_, ?_⟩
      · rw [show ((u : Int) / 128) = ((u / 128 : Nat) : Int) from by omega]
        exact ⟨v1, xs ++ [((u % 128 + 128 : Nat) : Int)], u / 128, f, _, _, _, _, _, _, _, _, _, _, _, _, _, _, _, _, _, _, _, _, _, _, _, rfl, HY, HO1, HB1, HK1⟩
      · show ((u : Int) / 128).toNat < ((u : Int)).toNat
        have := of_decide_eq_true hdec
        omega
    · have hdec : decide (((u : Nat) : Int) > 127) = false := by simp; omega
      have HY := Aside0.mk (show xs ++ [(u : Int)] = r from by
        obtain ⟨h1, h2, h3⟩ := HX.out
        rw [← h1, putN, if_neg hgt])
      have hm : ((u : Int) % 256) = (u : Int) := by omega
      go_wp2_with (first | ((with_reducible refine gate_builtin (b := .append) (xs := #[.tmp 20, .tmp 23]) rfl ?_); at_builtin; refine Kd.R_append (Kd.int .u8) (w0 := w0) w0.heap.size rfl (.tmp 20) (.tmp 23) 22 5 (.int .u8 0) 1 rfl Try.underlying22 put_info5 rfl (by decide) (by omega) v xs ((u : Int)) [.int .u8 ((u : Int))] (fun k_ => (P0_ k_ ∨ w.heap.size ≤ k_)) (fun _ => False) rfl rfl ?aP (fun _ hk => hk.elim) ?aF ?aO ?aB ?aS ?aL ?_; (case aP => exact rfl); (case aB => exact HB.out); (case aF => exact (fun k_ hk => .inr (Nat.le_trans HK.out.1 hk))); (case aO => exact HO.out); (case aS => exact HB.out.size); (case aL => have := HX.out.2.2; omega); intro v1 w1 ho1 hb1 hg1 hat1; have HK1 := Aside0.mk (kept_grown2 HK.out hg1 (fun k_ e_ => HO.out.1 k_ e_)); have HO1 := Aside0.mk ho1; have HB1 := Aside0.mk hb1; clear ho1 hb1 hg1 hat1))
      simp only [Exit.jump]
      go_ret
      refine ⟨_, rfl, ?_, HB1.out, HK1.out⟩
      rw [← HY.out]
      exact HO1.out
end Go.Proofs.Ytmlemnfleicnfaa.PA
