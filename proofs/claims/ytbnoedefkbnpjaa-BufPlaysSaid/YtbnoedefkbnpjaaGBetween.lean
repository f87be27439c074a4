/- Between. Printed by a program of this session; Lean checks it. -/
import Derived.Test.YtbnoedefkbnpjaaHGw2
namespace Go.Proofs.Ytbnoedefkbnpjaa.PA
open Go.RowKit Go.Proofs.YtbnoedefkbnpjaaW.PrintWords Go.Proofs.YtbnoedefkbnpjaaW.PrintLast Go.Proofs.YtbnoedefkbnpjaaW.PrintMore
set_option linter.unusedVariables false
set_option linter.unusedSimpArgs false
namespace GBetween_

set_option maxHeartbeats 4000000 in
set_option maxRecDepth 100000 in
theorem between_calls (n lo hi : Int) (w : World) (h : lo ≤ hi) :
    Calls Try.prog 35 #[.int .i64 n, .int .i64 lo, .int .i64 hi] w fun e w' => e = .returned (.int .i64 (mn (mx n lo) hi)) ∧ Below w.heap.size w w' := by
  refine gw_start (N := 16) (vs := [.int .i64 n, .int .i64 lo, .int .i64 hi]) Try.func35 rfl rfl (by simp) fun a HF HO => ?_
  replace HO : Own w w [] := HO
  refine gw_seq fun K1 hK1 => ?_
  refine wp_region_lit ?_
  refine gw_ev HF (want_none rfl) rfl (by decide) (op_assign rfl (ev_c _ _)) ?_
  intro a2 HF3; clear HF
  refine wpList_nil ?_
  refine gw_nx (hK1 _ _ ?_)
  refine gw_seq fun K4 hK4 => ?_
  refine gw_seq fun K5 hK5 => ?_
  refine wp_region_lit ?_
  refine gw_ev HF3 (want_none rfl) rfl (by decide) (op_move rfl (HF3.ev rfl)) ?_
  intro a6 HF7; clear HF3
  refine gw_ev HF7 (want_none rfl) rfl (by decide) (op_move rfl (HF7.ev rfl)) ?_
  intro a8 HF9; clear HF7
  refine gw_ev HF9 (want_none rfl) rfl (by decide) (op_lss rfl (HF9.ev rfl) (HF9.ev rfl)) ?_
  intro a10 HF11; clear HF9
  refine wpList_nil ?_
  refine gw_nx (hK5 _ _ ?_)
  refine gw_cond HF11 rfl (fun hb12 => ?_) (fun hb12 => ?_)
  · skip
    have HF13 := HF11.subst_ (d := 9) (b := true) rfl hb12
    clear HF11
    (try simp only [decide_eq_true_eq, decide_eq_false_iff_not, Bool.not_eq_true', Bool.not_eq_false', Bool.not_eq_true, Bool.not_eq_false, ne_eq, Decidable.not_not, Int.not_lt, Int.not_le, not_true_eq_false, not_false_eq_true, bne_iff_ne, beq_iff_eq, bne_eq_false_iff_eq, beq_eq_false_iff_ne] at hb12)
    refine gw_seq fun K14 hK14 => ?_
    refine wp_region_lit ?_
    refine gw_ev HF13 (want_none rfl) rfl (by decide) (op_move rfl (HF13.ev rfl)) ?_
    intro a15 HF16; clear HF13
    refine gw_ev HF16 (want_none rfl) rfl (by decide) (op_assign rfl (HF16.ev rfl)) ?_
    intro a17 HF18; clear HF16
    refine wpList_nil ?_
    refine gw_nx (hK14 _ _ ?_)
    refine wp_ret ?_
    refine gw_thr ?_
    refine gw_ret1 HF18 rfl rfl ?_
    exact ⟨by congr 2; unfold mn mx; (repeat' split) <;> omega, HO.below⟩
  · skip
    have HF19 := HF11.subst_ (d := 9) (b := false) rfl hb12
    clear HF11
    (try simp only [decide_eq_true_eq, decide_eq_false_iff_not, Bool.not_eq_true', Bool.not_eq_false', Bool.not_eq_true, Bool.not_eq_false, ne_eq, Decidable.not_not, Int.not_lt, Int.not_le, not_true_eq_false, not_false_eq_true, bne_iff_ne, beq_iff_eq, bne_eq_false_iff_eq, beq_eq_false_iff_ne] at hb12)
    refine wp_skip ?_
    refine gw_nx (hK4 _ _ ?_)
    refine gw_seq fun K20 hK20 => ?_
    refine gw_seq fun K21 hK21 => ?_
    refine wp_region_lit ?_
    refine gw_ev HF19 (want_none rfl) rfl (by decide) (op_move rfl (HF19.ev rfl)) ?_
    intro a22 HF23; clear HF19
    refine gw_ev HF23 (want_none rfl) rfl (by decide) (op_move rfl (HF23.ev rfl)) ?_
    intro a24 HF25; clear HF23
    refine gw_ev HF25 (want_none rfl) rfl (by decide) (op_gtr rfl (HF25.ev rfl) (HF25.ev rfl)) ?_
    intro a26 HF27; clear HF25
    refine wpList_nil ?_
    refine gw_nx (hK21 _ _ ?_)
    refine gw_cond HF27 rfl (fun hb28 => ?_) (fun hb28 => ?_)
    · skip
      have HF29 := HF27.subst_ (d := 13) (b := true) rfl hb28
      clear HF27
      (try simp only [decide_eq_true_eq, decide_eq_false_iff_not, Bool.not_eq_true', Bool.not_eq_false', Bool.not_eq_true, Bool.not_eq_false, ne_eq, Decidable.not_not, Int.not_lt, Int.not_le, not_true_eq_false, not_false_eq_true, bne_iff_ne, beq_iff_eq, bne_eq_false_iff_eq, beq_eq_false_iff_ne] at hb28)
      refine gw_seq fun K30 hK30 => ?_
      refine wp_region_lit ?_
      refine gw_ev HF29 (want_none rfl) rfl (by decide) (op_move rfl (HF29.ev rfl)) ?_
      intro a31 HF32; clear HF29
      refine gw_ev HF32 (want_none rfl) rfl (by decide) (op_assign rfl (HF32.ev rfl)) ?_
      intro a33 HF34; clear HF32
      refine wpList_nil ?_
      refine gw_nx (hK30 _ _ ?_)
      refine wp_ret ?_
      refine gw_thr ?_
      refine gw_ret1 HF34 rfl rfl ?_
      exact ⟨by congr 2; unfold mn mx; (repeat' split) <;> omega, HO.below⟩
    · skip
      have HF35 := HF27.subst_ (d := 13) (b := false) rfl hb28
      clear HF27
      (try simp only [decide_eq_true_eq, decide_eq_false_iff_not, Bool.not_eq_true', Bool.not_eq_false', Bool.not_eq_true, Bool.not_eq_false, ne_eq, Decidable.not_not, Int.not_lt, Int.not_le, not_true_eq_false, not_false_eq_true, bne_iff_ne, beq_iff_eq, bne_eq_false_iff_eq, beq_eq_false_iff_ne] at hb28)
      refine wp_skip ?_
      refine gw_nx (hK20 _ _ ?_)
      refine gw_seq fun K36 hK36 => ?_
      refine wp_region_lit ?_
      refine gw_ev HF35 (want_none rfl) rfl (by decide) (op_move rfl (HF35.ev rfl)) ?_
      intro a37 HF38; clear HF35
      refine gw_ev HF38 (want_none rfl) rfl (by decide) (op_assign rfl (HF38.ev rfl)) ?_
      intro a39 HF40; clear HF38
      refine wpList_nil ?_
      refine gw_nx (hK36 _ _ ?_)
      refine wp_ret ?_
      refine gw_ret1 HF40 rfl rfl ?_
      exact ⟨by congr 2; unfold mn mx; (repeat' split) <;> omega, HO.below⟩
end GBetween_
end Go.Proofs.Ytbnoedefkbnpjaa.PA
