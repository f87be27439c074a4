/- Which events decide. Printed by a program of this session; Lean checks it. -/
import Derived.Test.YtmlemnfleicnfaaHRight
namespace Go.Proofs.Ytmlemnfleicnfaa.PA
open Go.RowKit Go.Proofs.YtmlemnfleicnfaaW.PrintWords Go.Proofs.YtmlemnfleicnfaaW.PrintLast Go.Proofs.YtmlemnfleicnfaaW.PrintMore
set_option linter.unusedVariables false
set_option linter.unusedSimpArgs false
namespace GDecides_
theorem gwagg3 : ∀ w, (isAgg 3).run Try.prog w = .ok false w := fun _ => by kernel_rfl
theorem gwfld70_0 (g off : Nat) : ∀ w, (Instr.fieldAt 70 (.pointer (some ⟨g, off, none⟩)) 0).run Try.prog w = .ok (.pointer (some ⟨g, off + 0, none⟩)) w := fun _ => by kernel_rfl
theorem gwfld70_1 (g off : Nat) : ∀ w, (Instr.fieldAt 70 (.pointer (some ⟨g, off, none⟩)) 1).run Try.prog w = .ok (.pointer (some ⟨g, off + 1, none⟩)) w := fun _ => by kernel_rfl
set_option maxHeartbeats 4000000 in
set_option maxRecDepth 100000 in
theorem decides_calls (x : S70) (w : World) :
    Calls Try.prog 51 #[.agg #[.int .i64 x.f0, .int .i64 x.f1, .string x.f2, .int .i64 x.f3]] w fun e w' => e = .returned (.bool (decL x)) ∧ Below w.heap.size w w' := by
  refine gw_start (N := 18) (vs := [.agg #[.int .i64 x.f0, .int .i64 x.f1, .string x.f2, .int .i64 x.f3]]) Try.func51 rfl rfl (by simp) fun a HF HO => ?_
  replace HO : Own w w [] := HO
  refine gw_seq fun K1 hK1 => ?_
  refine wp_region_lit ?_
  refine gw_new HF HO (want_none rfl) rfl (by decide) (op_box rfl (HF.ev rfl)) ?_
  intro g2 a3 w4 HF5 HO6; clear HF HO
  have HO7 : Own w w4 [Chunk.blk g2 (.cells #[.int .i64 x.f0, .int .i64 x.f1, .string x.f2, .int .i64 x.f3] 70 (0, 0))] := HO6
  clear HO6
  refine gw_ev HF5 (want_none rfl) rfl (by decide) (op_assign rfl (ev_c _ _)) ?_
  intro a8 HF9; clear HF5
  refine wpList_nil ?_
  refine gw_nx (hK1 _ _ ?_)
  refine gw_seq fun K10 hK10 => ?_
  refine gw_seq fun K11 hK11 => ?_
  refine wp_region_lit ?_
  refine gw_ev HF9 (want_none rfl) rfl (by decide) (op_field (gwfld70_0 _ _) rfl (HF9.ev rfl)) ?_
  intro a12 HF13; clear HF9
  refine gw_ev HF13 (want_none rfl) rfl (by decide) (op_load1 gwagg3 rfl (HF13.ev rfl) (blk_at (HO7.get 0 rfl) rfl)) ?_
  intro a14 HF15; clear HF13
  refine wpList_nil ?_
  refine gw_nx (hK11 _ _ ?_)
  refine wp_block ?_
  refine gw_seq fun K16 hK16 => ?_
  refine gw_seq fun K17 hK17 => ?_
  refine wp_region_lit ?_
  refine gw_ev HF15 (want_none rfl) rfl (by decide) (op_eqi rfl (HF15.ev rfl) (ev_c _ _)) ?_
  intro a18 HF19; clear HF15
  refine gw_ev HF19 (want_none rfl) rfl (by decide) (op_assign rfl (HF19.ev rfl)) ?_
  intro a20 HF21; clear HF19
  refine wpList_nil ?_
  refine gw_nx (hK17 _ _ ?_)
  refine gw_cond HF21 rfl (fun hb22 => ?_) (fun hb22 => ?_)
  · skip
    have HF23 := HF21.subst_ (d := 5) (b := true) rfl hb22
    clear HF21
    (try simp only [Bool.and_eq_true, Bool.or_eq_true, Bool.and_eq_false_iff, Bool.or_eq_false_iff, Bool.not_and, Bool.not_or, Bool.not_not, decide_eq_true_eq, decide_eq_false_iff_not, Bool.not_eq_true', Bool.not_eq_false', Bool.not_eq_true, Bool.not_eq_false, ne_eq, Decidable.not_not, Int.not_lt, Int.not_le, not_true_eq_false, not_false_eq_true, bne_iff_ne, beq_iff_eq, bne_eq_false_iff_eq, beq_eq_false_iff_ne] at hb22)
    refine wp_skip ?_
    refine gw_nx (hK16 _ _ ?_)
    refine gw_cond HF23 rfl (fun hb24 => ?_) (fun hb24 => ?_)
    rotate_left
    · cases hb24
    refine gw_seq fun K25 hK25 => ?_
    refine wp_region_lit ?_
    refine gw_ev HF23 (want_none rfl) rfl (by decide) (op_field (gwfld70_1 _ _) rfl (HF23.ev rfl)) ?_
    intro a26 HF27; clear HF23
    refine gw_ev HF27 (want_none rfl) rfl (by decide) (op_load1 gwagg3 rfl (HF27.ev rfl) (blk_at (HO7.get 0 rfl) rfl)) ?_
    intro a28 HF29; clear HF27
    refine gw_ev HF29 (want_none rfl) rfl (by decide) (op_lss rfl (HF29.ev rfl) (ev_c _ _)) ?_
    intro a30 HF31; clear HF29
    refine gw_ev HF31 (want_none rfl) rfl (by decide) (op_assign rfl (HF31.ev rfl)) ?_
    intro a32 HF33; clear HF31
    refine wpList_nil ?_
    refine gw_nx (hK25 _ _ ?_)
    refine wp_ret ?_
    refine gw_blr ?_
    refine gw_thr ?_
    refine gw_ret1 HF33 rfl rfl ?_
    exact ⟨by congr 2; rw [Bool.eq_iff_iff]; unfold decL; (repeat' split) <;> simp <;> omega, HO7.below⟩
  · skip
    have HF34 := HF21.subst_ (d := 5) (b := false) rfl hb22
    clear HF21
    (try simp only [Bool.and_eq_true, Bool.or_eq_true, Bool.and_eq_false_iff, Bool.or_eq_false_iff, Bool.not_and, Bool.not_or, Bool.not_not, decide_eq_true_eq, decide_eq_false_iff_not, Bool.not_eq_true', Bool.not_eq_false', Bool.not_eq_true, Bool.not_eq_false, ne_eq, Decidable.not_not, Int.not_lt, Int.not_le, not_true_eq_false, not_false_eq_true, bne_iff_ne, beq_iff_eq, bne_eq_false_iff_eq, beq_eq_false_iff_ne] at hb22)
    refine gw_seq fun K35 hK35 => ?_
    refine wp_region_lit ?_
    refine gw_ev HF34 (want_none rfl) rfl (by decide) (op_eqi rfl (HF34.ev rfl) (ev_c _ _)) ?_
    intro a36 HF37; clear HF34
    refine gw_ev HF37 (want_none rfl) rfl (by decide) (op_assign rfl (HF37.ev rfl)) ?_
    intro a38 HF39; clear HF37
    refine wpList_nil ?_
    refine gw_nx (hK35 _ _ ?_)
    refine gw_cond HF39 rfl (fun hb40 => ?_) (fun hb40 => ?_)
    · skip
      have HF41 := HF39.subst_ (d := 5) (b := true) rfl hb40
      clear HF39
      (try simp only [Bool.and_eq_true, Bool.or_eq_true, Bool.and_eq_false_iff, Bool.or_eq_false_iff, Bool.not_and, Bool.not_or, Bool.not_not, decide_eq_true_eq, decide_eq_false_iff_not, Bool.not_eq_true', Bool.not_eq_false', Bool.not_eq_true, Bool.not_eq_false, ne_eq, Decidable.not_not, Int.not_lt, Int.not_le, not_true_eq_false, not_false_eq_true, bne_iff_ne, beq_iff_eq, bne_eq_false_iff_eq, beq_eq_false_iff_ne] at hb40)
      refine wp_skip ?_
      refine gw_nx (hK16 _ _ ?_)
      refine gw_cond HF41 rfl (fun hb42 => ?_) (fun hb42 => ?_)
      rotate_left
      · cases hb42
      refine gw_seq fun K43 hK43 => ?_
      refine wp_region_lit ?_
      refine gw_ev HF41 (want_none rfl) rfl (by decide) (op_field (gwfld70_1 _ _) rfl (HF41.ev rfl)) ?_
      intro a44 HF45; clear HF41
      refine gw_ev HF45 (want_none rfl) rfl (by decide) (op_load1 gwagg3 rfl (HF45.ev rfl) (blk_at (HO7.get 0 rfl) rfl)) ?_
      intro a46 HF47; clear HF45
      refine gw_ev HF47 (want_none rfl) rfl (by decide) (op_lss rfl (HF47.ev rfl) (ev_c _ _)) ?_
      intro a48 HF49; clear HF47
      refine gw_ev HF49 (want_none rfl) rfl (by decide) (op_assign rfl (HF49.ev rfl)) ?_
      intro a50 HF51; clear HF49
      refine wpList_nil ?_
      refine gw_nx (hK43 _ _ ?_)
      refine wp_ret ?_
      refine gw_blr ?_
      refine gw_thr ?_
      refine gw_ret1 HF51 rfl rfl ?_
      exact ⟨by congr 2; rw [Bool.eq_iff_iff]; unfold decL; (repeat' split) <;> simp <;> omega, HO7.below⟩
    · skip
      have HF52 := HF39.subst_ (d := 5) (b := false) rfl hb40
      clear HF39
      (try simp only [Bool.and_eq_true, Bool.or_eq_true, Bool.and_eq_false_iff, Bool.or_eq_false_iff, Bool.not_and, Bool.not_or, Bool.not_not, decide_eq_true_eq, decide_eq_false_iff_not, Bool.not_eq_true', Bool.not_eq_false', Bool.not_eq_true, Bool.not_eq_false, ne_eq, Decidable.not_not, Int.not_lt, Int.not_le, not_true_eq_false, not_false_eq_true, bne_iff_ne, beq_iff_eq, bne_eq_false_iff_eq, beq_eq_false_iff_ne] at hb40)
      refine wp_region_lit ?_
      refine gw_ev HF52 (want_none rfl) rfl (by decide) (op_eqi rfl (HF52.ev rfl) (ev_c _ _)) ?_
      intro a53 HF54; clear HF52
      refine gw_ev HF54 (want_none rfl) rfl (by decide) (op_assign rfl (HF54.ev rfl)) ?_
      intro a55 HF56; clear HF54
      refine wpList_nil ?_
      refine gw_nx (hK16 _ _ ?_)
      refine gw_cond HF56 rfl (fun hb57 => ?_) (fun hb57 => ?_)
      · skip
        have HF58 := HF56.subst_ (d := 5) (b := true) rfl hb57
        clear HF56
        (try simp only [Bool.and_eq_true, Bool.or_eq_true, Bool.and_eq_false_iff, Bool.or_eq_false_iff, Bool.not_and, Bool.not_or, Bool.not_not, decide_eq_true_eq, decide_eq_false_iff_not, Bool.not_eq_true', Bool.not_eq_false', Bool.not_eq_true, Bool.not_eq_false, ne_eq, Decidable.not_not, Int.not_lt, Int.not_le, not_true_eq_false, not_false_eq_true, bne_iff_ne, beq_iff_eq, bne_eq_false_iff_eq, beq_eq_false_iff_ne] at hb57)
        refine gw_seq fun K59 hK59 => ?_
        refine wp_region_lit ?_
        refine gw_ev HF58 (want_none rfl) rfl (by decide) (op_field (gwfld70_1 _ _) rfl (HF58.ev rfl)) ?_
        intro a60 HF61; clear HF58
        refine gw_ev HF61 (want_none rfl) rfl (by decide) (op_load1 gwagg3 rfl (HF61.ev rfl) (blk_at (HO7.get 0 rfl) rfl)) ?_
        intro a62 HF63; clear HF61
        refine gw_ev HF63 (want_none rfl) rfl (by decide) (op_lss rfl (HF63.ev rfl) (ev_c _ _)) ?_
        intro a64 HF65; clear HF63
        refine gw_ev HF65 (want_none rfl) rfl (by decide) (op_assign rfl (HF65.ev rfl)) ?_
        intro a66 HF67; clear HF65
        refine wpList_nil ?_
        refine gw_nx (hK59 _ _ ?_)
        refine wp_ret ?_
        refine gw_blr ?_
        refine gw_thr ?_
        refine gw_ret1 HF67 rfl rfl ?_
        exact ⟨by congr 2; rw [Bool.eq_iff_iff]; unfold decL; (repeat' split) <;> simp <;> omega, HO7.below⟩
      · skip
        have HF68 := HF56.subst_ (d := 5) (b := false) rfl hb57
        clear HF56
        (try simp only [Bool.and_eq_true, Bool.or_eq_true, Bool.and_eq_false_iff, Bool.or_eq_false_iff, Bool.not_and, Bool.not_or, Bool.not_not, decide_eq_true_eq, decide_eq_false_iff_not, Bool.not_eq_true', Bool.not_eq_false', Bool.not_eq_true, Bool.not_eq_false, ne_eq, Decidable.not_not, Int.not_lt, Int.not_le, not_true_eq_false, not_false_eq_true, bne_iff_ne, beq_iff_eq, bne_eq_false_iff_eq, beq_eq_false_iff_ne] at hb57)
        refine gw_seq fun K69 hK69 => ?_
        refine gw_seq fun K70 hK70 => ?_
        refine wp_region_lit ?_
        refine gw_ev HF68 (want_none rfl) rfl (by decide) (op_eqi rfl (HF68.ev rfl) (ev_c _ _)) ?_
        intro a71 HF72; clear HF68
        refine gw_ev HF72 (want_none rfl) rfl (by decide) (op_assign rfl (HF72.ev rfl)) ?_
        intro a73 HF74; clear HF72
        refine wpList_nil ?_
        refine gw_nx (hK70 _ _ ?_)
        refine gw_cond HF74 rfl (fun hb75 => ?_) (fun hb75 => ?_)
        · skip
          have HF76 := HF74.subst_ (d := 12) (b := true) rfl hb75
          clear HF74
          (try simp only [Bool.and_eq_true, Bool.or_eq_true, Bool.and_eq_false_iff, Bool.or_eq_false_iff, Bool.not_and, Bool.not_or, Bool.not_not, decide_eq_true_eq, decide_eq_false_iff_not, Bool.not_eq_true', Bool.not_eq_false', Bool.not_eq_true, Bool.not_eq_false, ne_eq, Decidable.not_not, Int.not_lt, Int.not_le, not_true_eq_false, not_false_eq_true, bne_iff_ne, beq_iff_eq, bne_eq_false_iff_eq, beq_eq_false_iff_ne] at hb75)
          refine wp_skip ?_
          refine gw_nx (hK69 _ _ ?_)
          refine gw_cond HF76 rfl (fun hb77 => ?_) (fun hb77 => ?_)
          rotate_left
          · cases hb77
          refine gw_seq fun K78 hK78 => ?_
          refine wp_region_lit ?_
          refine gw_ev HF76 (want_none rfl) rfl (by decide) (op_assign rfl (ev_c _ _)) ?_
          intro a79 HF80; clear HF76
          refine wpList_nil ?_
          refine gw_nx (hK78 _ _ ?_)
          refine wp_ret ?_
          refine gw_blr ?_
          refine gw_thr ?_
          refine gw_ret1 HF80 rfl rfl ?_
          exact ⟨by congr 2; rw [Bool.eq_iff_iff]; unfold decL; (repeat' split) <;> simp <;> omega, HO7.below⟩
        · skip
          have HF81 := HF74.subst_ (d := 12) (b := false) rfl hb75
          clear HF74
          (try simp only [Bool.and_eq_true, Bool.or_eq_true, Bool.and_eq_false_iff, Bool.or_eq_false_iff, Bool.not_and, Bool.not_or, Bool.not_not, decide_eq_true_eq, decide_eq_false_iff_not, Bool.not_eq_true', Bool.not_eq_false', Bool.not_eq_true, Bool.not_eq_false, ne_eq, Decidable.not_not, Int.not_lt, Int.not_le, not_true_eq_false, not_false_eq_true, bne_iff_ne, beq_iff_eq, bne_eq_false_iff_eq, beq_eq_false_iff_ne] at hb75)
          refine gw_seq fun K82 hK82 => ?_
          refine wp_region_lit ?_
          refine gw_ev HF81 (want_none rfl) rfl (by decide) (op_eqi rfl (HF81.ev rfl) (ev_c _ _)) ?_
          intro a83 HF84; clear HF81
          refine gw_ev HF84 (want_none rfl) rfl (by decide) (op_assign rfl (HF84.ev rfl)) ?_
          intro a85 HF86; clear HF84
          refine wpList_nil ?_
          refine gw_nx (hK82 _ _ ?_)
          refine gw_cond HF86 rfl (fun hb87 => ?_) (fun hb87 => ?_)
          · skip
            have HF88 := HF86.subst_ (d := 12) (b := true) rfl hb87
            clear HF86
            (try simp only [Bool.and_eq_true, Bool.or_eq_true, Bool.and_eq_false_iff, Bool.or_eq_false_iff, Bool.not_and, Bool.not_or, Bool.not_not, decide_eq_true_eq, decide_eq_false_iff_not, Bool.not_eq_true', Bool.not_eq_false', Bool.not_eq_true, Bool.not_eq_false, ne_eq, Decidable.not_not, Int.not_lt, Int.not_le, not_true_eq_false, not_false_eq_true, bne_iff_ne, beq_iff_eq, bne_eq_false_iff_eq, beq_eq_false_iff_ne] at hb87)
            refine wp_skip ?_
            refine gw_nx (hK69 _ _ ?_)
            refine gw_cond HF88 rfl (fun hb89 => ?_) (fun hb89 => ?_)
            rotate_left
            · cases hb89
            refine gw_seq fun K90 hK90 => ?_
            refine wp_region_lit ?_
            refine gw_ev HF88 (want_none rfl) rfl (by decide) (op_assign rfl (ev_c _ _)) ?_
            intro a91 HF92; clear HF88
            refine wpList_nil ?_
            refine gw_nx (hK90 _ _ ?_)
            refine wp_ret ?_
            refine gw_blr ?_
            refine gw_thr ?_
            refine gw_ret1 HF92 rfl rfl ?_
            exact ⟨by congr 2; rw [Bool.eq_iff_iff]; unfold decL; (repeat' split) <;> simp <;> omega, HO7.below⟩
          · skip
            have HF93 := HF86.subst_ (d := 12) (b := false) rfl hb87
            clear HF86
            (try simp only [Bool.and_eq_true, Bool.or_eq_true, Bool.and_eq_false_iff, Bool.or_eq_false_iff, Bool.not_and, Bool.not_or, Bool.not_not, decide_eq_true_eq, decide_eq_false_iff_not, Bool.not_eq_true', Bool.not_eq_false', Bool.not_eq_true, Bool.not_eq_false, ne_eq, Decidable.not_not, Int.not_lt, Int.not_le, not_true_eq_false, not_false_eq_true, bne_iff_ne, beq_iff_eq, bne_eq_false_iff_eq, beq_eq_false_iff_ne] at hb87)
            refine gw_seq fun K94 hK94 => ?_
            refine wp_region_lit ?_
            refine gw_ev HF93 (want_none rfl) rfl (by decide) (op_eqi rfl (HF93.ev rfl) (ev_c _ _)) ?_
            intro a95 HF96; clear HF93
            refine gw_ev HF96 (want_none rfl) rfl (by decide) (op_assign rfl (HF96.ev rfl)) ?_
            intro a97 HF98; clear HF96
            refine wpList_nil ?_
            refine gw_nx (hK94 _ _ ?_)
            refine gw_cond HF98 rfl (fun hb99 => ?_) (fun hb99 => ?_)
            · skip
              have HF100 := HF98.subst_ (d := 12) (b := true) rfl hb99
              clear HF98
              (try simp only [Bool.and_eq_true, Bool.or_eq_true, Bool.and_eq_false_iff, Bool.or_eq_false_iff, Bool.not_and, Bool.not_or, Bool.not_not, decide_eq_true_eq, decide_eq_false_iff_not, Bool.not_eq_true', Bool.not_eq_false', Bool.not_eq_true, Bool.not_eq_false, ne_eq, Decidable.not_not, Int.not_lt, Int.not_le, not_true_eq_false, not_false_eq_true, bne_iff_ne, beq_iff_eq, bne_eq_false_iff_eq, beq_eq_false_iff_ne] at hb99)
              refine wp_skip ?_
              refine gw_nx (hK69 _ _ ?_)
              refine gw_cond HF100 rfl (fun hb101 => ?_) (fun hb101 => ?_)
              rotate_left
              · cases hb101
              refine gw_seq fun K102 hK102 => ?_
              refine wp_region_lit ?_
              refine gw_ev HF100 (want_none rfl) rfl (by decide) (op_assign rfl (ev_c _ _)) ?_
              intro a103 HF104; clear HF100
              refine wpList_nil ?_
              refine gw_nx (hK102 _ _ ?_)
              refine wp_ret ?_
              refine gw_blr ?_
              refine gw_thr ?_
              refine gw_ret1 HF104 rfl rfl ?_
              exact ⟨by congr 2; rw [Bool.eq_iff_iff]; unfold decL; (repeat' split) <;> simp <;> omega, HO7.below⟩
            · skip
              have HF105 := HF98.subst_ (d := 12) (b := false) rfl hb99
              clear HF98
              (try simp only [Bool.and_eq_true, Bool.or_eq_true, Bool.and_eq_false_iff, Bool.or_eq_false_iff, Bool.not_and, Bool.not_or, Bool.not_not, decide_eq_true_eq, decide_eq_false_iff_not, Bool.not_eq_true', Bool.not_eq_false', Bool.not_eq_true, Bool.not_eq_false, ne_eq, Decidable.not_not, Int.not_lt, Int.not_le, not_true_eq_false, not_false_eq_true, bne_iff_ne, beq_iff_eq, bne_eq_false_iff_eq, beq_eq_false_iff_ne] at hb99)
              refine gw_seq fun K106 hK106 => ?_
              refine wp_region_lit ?_
              refine gw_ev HF105 (want_none rfl) rfl (by decide) (op_eqi rfl (HF105.ev rfl) (ev_c _ _)) ?_
              intro a107 HF108; clear HF105
              refine gw_ev HF108 (want_none rfl) rfl (by decide) (op_assign rfl (HF108.ev rfl)) ?_
              intro a109 HF110; clear HF108
              refine wpList_nil ?_
              refine gw_nx (hK106 _ _ ?_)
              refine gw_cond HF110 rfl (fun hb111 => ?_) (fun hb111 => ?_)
              · skip
                have HF112 := HF110.subst_ (d := 12) (b := true) rfl hb111
                clear HF110
                (try simp only [Bool.and_eq_true, Bool.or_eq_true, Bool.and_eq_false_iff, Bool.or_eq_false_iff, Bool.not_and, Bool.not_or, Bool.not_not, decide_eq_true_eq, decide_eq_false_iff_not, Bool.not_eq_true', Bool.not_eq_false', Bool.not_eq_true, Bool.not_eq_false, ne_eq, Decidable.not_not, Int.not_lt, Int.not_le, not_true_eq_false, not_false_eq_true, bne_iff_ne, beq_iff_eq, bne_eq_false_iff_eq, beq_eq_false_iff_ne] at hb111)
                refine wp_skip ?_
                refine gw_nx (hK69 _ _ ?_)
                refine gw_cond HF112 rfl (fun hb113 => ?_) (fun hb113 => ?_)
                rotate_left
                · cases hb113
                refine gw_seq fun K114 hK114 => ?_
                refine wp_region_lit ?_
                refine gw_ev HF112 (want_none rfl) rfl (by decide) (op_assign rfl (ev_c _ _)) ?_
                intro a115 HF116; clear HF112
                refine wpList_nil ?_
                refine gw_nx (hK114 _ _ ?_)
                refine wp_ret ?_
                refine gw_blr ?_
                refine gw_thr ?_
                refine gw_ret1 HF116 rfl rfl ?_
                exact ⟨by congr 2; rw [Bool.eq_iff_iff]; unfold decL; (repeat' split) <;> simp <;> omega, HO7.below⟩
              · skip
                have HF117 := HF110.subst_ (d := 12) (b := false) rfl hb111
                clear HF110
                (try simp only [Bool.and_eq_true, Bool.or_eq_true, Bool.and_eq_false_iff, Bool.or_eq_false_iff, Bool.not_and, Bool.not_or, Bool.not_not, decide_eq_true_eq, decide_eq_false_iff_not, Bool.not_eq_true', Bool.not_eq_false', Bool.not_eq_true, Bool.not_eq_false, ne_eq, Decidable.not_not, Int.not_lt, Int.not_le, not_true_eq_false, not_false_eq_true, bne_iff_ne, beq_iff_eq, bne_eq_false_iff_eq, beq_eq_false_iff_ne] at hb111)
                refine wp_region_lit ?_
                refine gw_ev HF117 (want_none rfl) rfl (by decide) (op_eqi rfl (HF117.ev rfl) (ev_c _ _)) ?_
                intro a118 HF119; clear HF117
                refine gw_ev HF119 (want_none rfl) rfl (by decide) (op_assign rfl (HF119.ev rfl)) ?_
                intro a120 HF121; clear HF119
                refine wpList_nil ?_
                refine gw_nx (hK69 _ _ ?_)
                refine gw_cond HF121 rfl (fun hb122 => ?_) (fun hb122 => ?_)
                · skip
                  have HF123 := HF121.subst_ (d := 12) (b := true) rfl hb122
                  clear HF121
                  (try simp only [Bool.and_eq_true, Bool.or_eq_true, Bool.and_eq_false_iff, Bool.or_eq_false_iff, Bool.not_and, Bool.not_or, Bool.not_not, decide_eq_true_eq, decide_eq_false_iff_not, Bool.not_eq_true', Bool.not_eq_false', Bool.not_eq_true, Bool.not_eq_false, ne_eq, Decidable.not_not, Int.not_lt, Int.not_le, not_true_eq_false, not_false_eq_true, bne_iff_ne, beq_iff_eq, bne_eq_false_iff_eq, beq_eq_false_iff_ne] at hb122)
                  refine gw_seq fun K124 hK124 => ?_
                  refine wp_region_lit ?_
                  refine gw_ev HF123 (want_none rfl) rfl (by decide) (op_assign rfl (ev_c _ _)) ?_
                  intro a125 HF126; clear HF123
                  refine wpList_nil ?_
                  refine gw_nx (hK124 _ _ ?_)
                  refine wp_ret ?_
                  refine gw_blr ?_
                  refine gw_thr ?_
                  refine gw_ret1 HF126 rfl rfl ?_
                  exact ⟨by congr 2; rw [Bool.eq_iff_iff]; unfold decL; (repeat' split) <;> simp <;> omega, HO7.below⟩
                · skip
                  have HF127 := HF121.subst_ (d := 12) (b := false) rfl hb122
                  clear HF121
                  (try simp only [Bool.and_eq_true, Bool.or_eq_true, Bool.and_eq_false_iff, Bool.or_eq_false_iff, Bool.not_and, Bool.not_or, Bool.not_not, decide_eq_true_eq, decide_eq_false_iff_not, Bool.not_eq_true', Bool.not_eq_false', Bool.not_eq_true, Bool.not_eq_false, ne_eq, Decidable.not_not, Int.not_lt, Int.not_le, not_true_eq_false, not_false_eq_true, bne_iff_ne, beq_iff_eq, bne_eq_false_iff_eq, beq_eq_false_iff_ne] at hb122)
                  refine wp_skip ?_
                  refine gw_blk ?_
                  refine gw_nx (hK10 _ _ ?_)
                  refine gw_seq fun K128 hK128 => ?_
                  refine wp_region_lit ?_
                  refine gw_ev HF127 (want_none rfl) rfl (by decide) (op_assign rfl (ev_c _ _)) ?_
                  intro a129 HF130; clear HF127
                  refine wpList_nil ?_
                  refine gw_nx (hK128 _ _ ?_)
                  refine wp_ret ?_
                  refine gw_ret1 HF130 rfl rfl ?_
                  exact ⟨by congr 2; rw [Bool.eq_iff_iff]; unfold decL; (repeat' split) <;> simp <;> omega, HO7.below⟩
set_option maxHeartbeats 4000000 in
set_option maxRecDepth 100000 in
theorem rdecides_calls (x : S70) (w : World) :
    Calls Try.prog 52 #[.agg #[.int .i64 x.f0, .int .i64 x.f1, .string x.f2, .int .i64 x.f3]] w fun e w' => e = .returned (.bool (decL x)) ∧ Below w.heap.size w w' := by
  refine gw_start (N := 42) (vs := [.agg #[.int .i64 x.f0, .int .i64 x.f1, .string x.f2, .int .i64 x.f3]]) Try.func52 rfl rfl (by simp) fun a HF HO => ?_
  replace HO : Own w w [] := HO
  refine gw_seq fun K1 hK1 => ?_
  refine wp_region_lit ?_
  refine gw_new HF HO (want_none rfl) rfl (by decide) (op_box rfl (HF.ev rfl)) ?_
  intro g2 a3 w4 HF5 HO6; clear HF HO
  have HO7 : Own w w4 [Chunk.blk g2 (.cells #[.int .i64 x.f0, .int .i64 x.f1, .string x.f2, .int .i64 x.f3] 70 (0, 0))] := HO6
  clear HO6
  refine gw_ev HF5 (want_none rfl) rfl (by decide) (op_assign rfl (ev_c _ _)) ?_
  intro a8 HF9; clear HF5
  refine wpList_nil ?_
  refine gw_nx (hK1 _ _ ?_)
  refine gw_seq fun K10 hK10 => ?_
  refine gw_seq fun K11 hK11 => ?_
  refine wp_region_lit ?_
  refine gw_ev HF9 (want_none rfl) rfl (by decide) (op_field (gwfld70_0 _ _) rfl (HF9.ev rfl)) ?_
  intro a12 HF13; clear HF9
  refine gw_ev HF13 (want_none rfl) rfl (by decide) (op_load1 gwagg3 rfl (HF13.ev rfl) (blk_at (HO7.get 0 rfl) rfl)) ?_
  intro a14 HF15; clear HF13
  refine gw_ev HF15 (want_none rfl) rfl (by decide) (op_eqi rfl (HF15.ev rfl) (ev_c _ _)) ?_
  intro a16 HF17; clear HF15
  refine gw_ev HF17 (want_none rfl) rfl (by decide) (op_move rfl (HF17.ev rfl)) ?_
  intro a18 HF19; clear HF17
  refine gw_evG HF19 rfl rfl rfl rfl (on_f _) rfl (by decide) (fun h_ => (op_field (gwfld70_0 _ _) rfl (HF19.ev rfl))) ?_
  intro a20 HF21; clear HF19
  refine gw_evG HF21 rfl rfl rfl rfl (on_f _) rfl (by decide) (fun h_ => (op_load1 gwagg3 rfl (ev_gv (HF21.ev rfl) h_) (blk_at (HO7.get 0 rfl) rfl))) ?_
  intro a22 HF23; clear HF21
  refine gw_evG HF23 rfl rfl rfl rfl (on_f _) rfl (by decide) (fun h_ => (op_eqi rfl (ev_gv (HF23.ev rfl) h_) (ev_c _ _))) ?_
  intro a24 HF25; clear HF23
  refine gw_ev HF25 (want_none rfl) rfl (by decide) (op_pick_or rfl (HF25.ev rfl) (ev_c _ _) (fun hp_ => (ev_gv (HF25.ev rfl) (not_t hp_)))) ?_
  intro a26 HF27; clear HF25
  refine gw_ev HF27 (want_none rfl) rfl (by decide) (op_move rfl (HF27.ev rfl)) ?_
  intro a28 HF29; clear HF27
  refine gw_evG HF29 rfl rfl rfl rfl (on_f _) rfl (by decide) (fun h_ => (op_field (gwfld70_0 _ _) rfl (HF29.ev rfl))) ?_
  intro a30 HF31; clear HF29
  refine gw_evG HF31 rfl rfl rfl rfl (on_f _) rfl (by decide) (fun h_ => (op_load1 gwagg3 rfl (ev_gv (HF31.ev rfl) h_) (blk_at (HO7.get 0 rfl) rfl))) ?_
  intro a32 HF33; clear HF31
  refine gw_evG HF33 rfl rfl rfl rfl (on_f _) rfl (by decide) (fun h_ => (op_eqi rfl (ev_gv (HF33.ev rfl) h_) (ev_c _ _))) ?_
  intro a34 HF35; clear HF33
  refine gw_ev HF35 (want_none rfl) rfl (by decide) (op_pick_or rfl (HF35.ev rfl) (ev_c _ _) (fun hp_ => (ev_gv (HF35.ev rfl) (not_t hp_)))) ?_
  intro a36 HF37; clear HF35
  refine wpList_nil ?_
  refine gw_nx (hK11 _ _ ?_)
  refine gw_cond HF37 rfl (fun hb38 => ?_) (fun hb38 => ?_)
  · skip
    have HF39 := HF37.subst_ (d := 15) (b := true) rfl hb38
    clear HF37
    (try simp only [Bool.and_eq_true, Bool.or_eq_true, Bool.and_eq_false_iff, Bool.or_eq_false_iff, Bool.not_and, Bool.not_or, Bool.not_not, decide_eq_true_eq, decide_eq_false_iff_not, Bool.not_eq_true', Bool.not_eq_false', Bool.not_eq_true, Bool.not_eq_false, ne_eq, Decidable.not_not, Int.not_lt, Int.not_le, not_true_eq_false, not_false_eq_true, bne_iff_ne, beq_iff_eq, bne_eq_false_iff_eq, beq_eq_false_iff_ne] at hb38)
    refine gw_seq fun K40 hK40 => ?_
    refine wp_region_lit ?_
    refine gw_ev HF39 (want_none rfl) rfl (by decide) (op_field (gwfld70_1 _ _) rfl (HF39.ev rfl)) ?_
    intro a41 HF42; clear HF39
    refine gw_ev HF42 (want_none rfl) rfl (by decide) (op_load1 gwagg3 rfl (HF42.ev rfl) (blk_at (HO7.get 0 rfl) rfl)) ?_
    intro a43 HF44; clear HF42
    refine gw_ev HF44 (want_none rfl) rfl (by decide) (op_lss rfl (HF44.ev rfl) (ev_c _ _)) ?_
    intro a45 HF46; clear HF44
    refine gw_ev HF46 (want_none rfl) rfl (by decide) (op_assign rfl (HF46.ev rfl)) ?_
    intro a47 HF48; clear HF46
    refine wpList_nil ?_
    refine gw_nx (hK40 _ _ ?_)
    refine wp_ret ?_
    refine gw_thr ?_
    refine gw_ret1 HF48 rfl rfl ?_
    exact ⟨by congr 2; rw [Bool.eq_iff_iff]; unfold decL; (repeat' split) <;> simp <;> omega, HO7.below⟩
  · skip
    have HF49 := HF37.subst_ (d := 15) (b := false) rfl hb38
    clear HF37
    (try simp only [Bool.and_eq_true, Bool.or_eq_true, Bool.and_eq_false_iff, Bool.or_eq_false_iff, Bool.not_and, Bool.not_or, Bool.not_not, decide_eq_true_eq, decide_eq_false_iff_not, Bool.not_eq_true', Bool.not_eq_false', Bool.not_eq_true, Bool.not_eq_false, ne_eq, Decidable.not_not, Int.not_lt, Int.not_le, not_true_eq_false, not_false_eq_true, bne_iff_ne, beq_iff_eq, bne_eq_false_iff_eq, beq_eq_false_iff_ne] at hb38)
    refine wp_skip ?_
    refine gw_nx (hK10 _ _ ?_)
    refine gw_seq fun K50 hK50 => ?_
    refine wp_region_lit ?_
    refine gw_ev HF49 (want_none rfl) rfl (by decide) (op_field (gwfld70_0 _ _) rfl (HF49.ev rfl)) ?_
    intro a51 HF52; clear HF49
    refine gw_ev HF52 (want_none rfl) rfl (by decide) (op_load1 gwagg3 rfl (HF52.ev rfl) (blk_at (HO7.get 0 rfl) rfl)) ?_
    intro a53 HF54; clear HF52
    refine gw_ev HF54 (want_none rfl) rfl (by decide) (op_eqi rfl (HF54.ev rfl) (ev_c _ _)) ?_
    intro a55 HF56; clear HF54
    refine gw_ev HF56 (want_none rfl) rfl (by decide) (op_move rfl (HF56.ev rfl)) ?_
    intro a57 HF58; clear HF56
    refine gw_evG HF58 rfl rfl rfl rfl (on_f _) rfl (by decide) (fun h_ => (op_field (gwfld70_0 _ _) rfl (HF58.ev rfl))) ?_
    intro a59 HF60; clear HF58
    refine gw_evG HF60 rfl rfl rfl rfl (on_f _) rfl (by decide) (fun h_ => (op_load1 gwagg3 rfl (ev_gv (HF60.ev rfl) h_) (blk_at (HO7.get 0 rfl) rfl))) ?_
    intro a61 HF62; clear HF60
    refine gw_evG HF62 rfl rfl rfl rfl (on_f _) rfl (by decide) (fun h_ => (op_eqi rfl (ev_gv (HF62.ev rfl) h_) (ev_c _ _))) ?_
    intro a63 HF64; clear HF62
    refine gw_ev HF64 (want_none rfl) rfl (by decide) (op_pick_or rfl (HF64.ev rfl) (ev_c _ _) (fun hp_ => (ev_gv (HF64.ev rfl) (not_t hp_)))) ?_
    intro a65 HF66; clear HF64
    refine gw_ev HF66 (want_none rfl) rfl (by decide) (op_move rfl (HF66.ev rfl)) ?_
    intro a67 HF68; clear HF66
    refine gw_evG HF68 rfl rfl rfl rfl (on_f _) rfl (by decide) (fun h_ => (op_field (gwfld70_0 _ _) rfl (HF68.ev rfl))) ?_
    intro a69 HF70; clear HF68
    refine gw_evG HF70 rfl rfl rfl rfl (on_f _) rfl (by decide) (fun h_ => (op_load1 gwagg3 rfl (ev_gv (HF70.ev rfl) h_) (blk_at (HO7.get 0 rfl) rfl))) ?_
    intro a71 HF72; clear HF70
    refine gw_evG HF72 rfl rfl rfl rfl (on_f _) rfl (by decide) (fun h_ => (op_eqi rfl (ev_gv (HF72.ev rfl) h_) (ev_c _ _))) ?_
    intro a73 HF74; clear HF72
    refine gw_ev HF74 (want_none rfl) rfl (by decide) (op_pick_or rfl (HF74.ev rfl) (ev_c _ _) (fun hp_ => (ev_gv (HF74.ev rfl) (not_t hp_)))) ?_
    intro a75 HF76; clear HF74
    refine gw_ev HF76 (want_none rfl) rfl (by decide) (op_move rfl (HF76.ev rfl)) ?_
    intro a77 HF78; clear HF76
    refine gw_evG HF78 rfl rfl rfl rfl (on_f _) rfl (by decide) (fun h_ => (op_field (gwfld70_0 _ _) rfl (HF78.ev rfl))) ?_
    intro a79 HF80; clear HF78
    refine gw_evG HF80 rfl rfl rfl rfl (on_f _) rfl (by decide) (fun h_ => (op_load1 gwagg3 rfl (ev_gv (HF80.ev rfl) h_) (blk_at (HO7.get 0 rfl) rfl))) ?_
    intro a81 HF82; clear HF80
    refine gw_evG HF82 rfl rfl rfl rfl (on_f _) rfl (by decide) (fun h_ => (op_eqi rfl (ev_gv (HF82.ev rfl) h_) (ev_c _ _))) ?_
    intro a83 HF84; clear HF82
    refine gw_ev HF84 (want_none rfl) rfl (by decide) (op_pick_or rfl (HF84.ev rfl) (ev_c _ _) (fun hp_ => (ev_gv (HF84.ev rfl) (not_t hp_)))) ?_
    intro a85 HF86; clear HF84
    refine gw_ev HF86 (want_none rfl) rfl (by decide) (op_move rfl (HF86.ev rfl)) ?_
    intro a87 HF88; clear HF86
    refine gw_evG HF88 rfl rfl rfl rfl (on_f _) rfl (by decide) (fun h_ => (op_field (gwfld70_0 _ _) rfl (HF88.ev rfl))) ?_
    intro a89 HF90; clear HF88
    refine gw_evG HF90 rfl rfl rfl rfl (on_f _) rfl (by decide) (fun h_ => (op_load1 gwagg3 rfl (ev_gv (HF90.ev rfl) h_) (blk_at (HO7.get 0 rfl) rfl))) ?_
    intro a91 HF92; clear HF90
    refine gw_evG HF92 rfl rfl rfl rfl (on_f _) rfl (by decide) (fun h_ => (op_eqi rfl (ev_gv (HF92.ev rfl) h_) (ev_c _ _))) ?_
    intro a93 HF94; clear HF92
    refine gw_ev HF94 (want_none rfl) rfl (by decide) (op_pick_or rfl (HF94.ev rfl) (ev_c _ _) (fun hp_ => (ev_gv (HF94.ev rfl) (not_t hp_)))) ?_
    intro a95 HF96; clear HF94
    refine gw_ev HF96 (want_none rfl) rfl (by decide) (op_assign rfl (HF96.ev rfl)) ?_
    intro a97 HF98; clear HF96
    refine wpList_nil ?_
    refine gw_nx (hK50 _ _ ?_)
    refine wp_ret ?_
    refine gw_ret1 HF98 rfl rfl ?_
    exact ⟨by congr 2; rw [Bool.eq_iff_iff]; unfold decL; (repeat' split) <;> simp <;> omega, HO7.below⟩
end GDecides_
end Go.Proofs.Ytmlemnfleicnfaa.PA
