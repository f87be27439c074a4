/- Which events are right. Printed by a program of this session; Lean checks it. -/
import Derived.Test.YtmlemnfleicnfaaHRight
namespace Go.Proofs.Ytmlemnfleicnfaa.PA
open Go.RowKit Go.Proofs.YtmlemnfleicnfaaW.PrintWords Go.Proofs.YtmlemnfleicnfaaW.PrintLast Go.Proofs.YtmlemnfleicnfaaW.PrintMore
set_option linter.unusedVariables false
set_option linter.unusedSimpArgs false
namespace GRightE_
theorem gwagg2 : ∀ w, (isAgg 2).run Try.prog w = .ok false w := fun _ => by kernel_rfl
theorem gwagg3 : ∀ w, (isAgg 3).run Try.prog w = .ok false w := fun _ => by kernel_rfl
theorem gwagg9 : ∀ w, (isAgg 9).run Try.prog w = .ok false w := fun _ => by kernel_rfl
theorem gwfld70_0 (g off : Nat) : ∀ w, (Instr.fieldAt 70 (.pointer (some ⟨g, off, none⟩)) 0).run Try.prog w = .ok (.pointer (some ⟨g, off + 0, none⟩)) w := fun _ => by kernel_rfl
theorem gwfld70_1 (g off : Nat) : ∀ w, (Instr.fieldAt 70 (.pointer (some ⟨g, off, none⟩)) 1).run Try.prog w = .ok (.pointer (some ⟨g, off + 1, none⟩)) w := fun _ => by kernel_rfl
theorem gwfld70_2 (g off : Nat) : ∀ w, (Instr.fieldAt 70 (.pointer (some ⟨g, off, none⟩)) 2).run Try.prog w = .ok (.pointer (some ⟨g, off + 2, none⟩)) w := fun _ => by kernel_rfl
theorem gwfld70_3 (g off : Nat) : ∀ w, (Instr.fieldAt 70 (.pointer (some ⟨g, off, none⟩)) 3).run Try.prog w = .ok (.pointer (some ⟨g, off + 3, none⟩)) w := fun _ => by kernel_rfl
set_option maxHeartbeats 4000000 in
set_option maxRecDepth 100000 in
theorem right_calls (x : S70) (w : World) :
    Calls Try.prog 67 #[.agg #[.int .i64 x.f0, .int .i64 x.f1, .string x.f2, .int .i64 x.f3]] w fun e w' => e = .returned (.bool (rightL x)) ∧ Below w.heap.size w w' := by
  refine gw_start (N := 59) (vs := [.agg #[.int .i64 x.f0, .int .i64 x.f1, .string x.f2, .int .i64 x.f3]]) Try.func67 rfl rfl (by simp) fun a HF HO => ?_
  replace HO : Own w w [] := HO
  refine gw_seq fun K1 hK1 => ?_
  refine wp_region_lit ?_
  refine gw_new HF HO (want_none rfl) rfl (by decide) (op_box rfl (HF.ev rfl)) ?_
  intro g2 a3 w4 HF5 HO6; clear HF HO
  have HO7 : Own w w4 [Chunk.blk g2 (.cells #[.int .i64 x.f0, .int .i64 x.f1, .string x.f2, .int .i64 x.f3] 70 (0, 0))] := HO6
  clear HO6
  refine gw_ev HF5 (want_none rfl) rfl (by decide) (op_assign rfl (ev_c _ _)) ?_
  intro a8 HF9; clear HF5
  refine wpList_nil ?_
  refine gw_nx (hK1 _ _ ?_)
  refine gw_seq fun K10 hK10 => ?_
  refine wp_region_lit ?_
  refine gw_ev HF9 (want_none rfl) rfl (by decide) (op_assign rfl (ev_c _ _)) ?_
  intro a11 HF12; clear HF9
  refine gw_ev HF12 (want_none rfl) rfl (by decide) (op_assign rfl (ev_c _ _)) ?_
  intro a13 HF14; clear HF12
  refine gw_ev HF14 (want_none rfl) rfl (by decide) (op_assign rfl (ev_c _ _)) ?_
  intro a15 HF16; clear HF14
  refine wpList_nil ?_
  refine gw_nx (hK10 _ _ ?_)
  refine gw_seq fun K17 hK17 => ?_
  refine gw_seq fun K18 hK18 => ?_
  refine wp_region_lit ?_
  refine gw_ev HF16 (want_none rfl) rfl (by decide) (op_field (gwfld70_0 _ _) rfl (HF16.ev rfl)) ?_
  intro a19 HF20; clear HF16
  refine gw_ev HF20 (want_none rfl) rfl (by decide) (op_load1 gwagg3 rfl (HF20.ev rfl) (blk_at (HO7.get 0 rfl) rfl)) ?_
  intro a21 HF22; clear HF20
  refine wpList_nil ?_
  refine gw_nx (hK18 _ _ ?_)
  refine wp_block ?_
  refine gw_seq fun K23 hK23 => ?_
  refine gw_seq fun K24 hK24 => ?_
  refine wp_region_lit ?_
  refine gw_ev HF22 (want_none rfl) rfl (by decide) (op_eqi rfl (HF22.ev rfl) (ev_c _ _)) ?_
  intro a25 HF26; clear HF22
  refine gw_ev HF26 (want_none rfl) rfl (by decide) (op_assign rfl (HF26.ev rfl)) ?_
  intro a27 HF28; clear HF26
  refine wpList_nil ?_
  refine gw_nx (hK24 _ _ ?_)
  refine gw_cond HF28 rfl (fun hb29 => ?_) (fun hb29 => ?_)
  · skip
    have HF30 := HF28.subst_ (d := 8) (b := true) rfl hb29
    clear HF28
    (try simp only [Bool.and_eq_true, Bool.or_eq_true, Bool.and_eq_false_iff, Bool.or_eq_false_iff, Bool.not_and, Bool.not_or, Bool.not_not, decide_eq_true_eq, decide_eq_false_iff_not, Bool.not_eq_true', Bool.not_eq_false', Bool.not_eq_true, Bool.not_eq_false, ne_eq, Decidable.not_not, Int.not_lt, Int.not_le, not_true_eq_false, not_false_eq_true, bne_iff_ne, beq_iff_eq, bne_eq_false_iff_eq, beq_eq_false_iff_ne] at hb29)
    refine wp_skip ?_
    refine gw_nx (hK23 _ _ ?_)
    refine gw_cond HF30 rfl (fun hb31 => ?_) (fun hb31 => ?_)
    rotate_left
    · cases hb31
    refine wp_region_lit ?_
    refine gw_ev HF30 (want_none rfl) rfl (by decide) (op_field (gwfld70_1 _ _) rfl (HF30.ev rfl)) ?_
    intro a32 HF33; clear HF30
    refine gw_ev HF33 (want_none rfl) rfl (by decide) (op_load1 gwagg3 rfl (HF33.ev rfl) (blk_at (HO7.get 0 rfl) rfl)) ?_
    intro a34 HF35; clear HF33
    refine gw_ev HF35 (want_none rfl) rfl (by decide) (op_assign rfl (HF35.ev rfl)) ?_
    intro a36 HF37; clear HF35
    refine wpList_nil ?_
    refine gw_blk ?_
    refine gw_nx (hK17 _ _ ?_)
    refine gw_seq fun K38 hK38 => ?_
    refine wp_region_lit ?_
    refine gw_ev HF37 (want_none rfl) rfl (by decide) (op_field (gwfld70_0 _ _) rfl (HF37.ev rfl)) ?_
    intro a39 HF40; clear HF37
    refine gw_ev HF40 (want_none rfl) rfl (by decide) (op_load1 gwagg3 rfl (HF40.ev rfl) (blk_at (HO7.get 0 rfl) rfl)) ?_
    intro a41 HF42; clear HF40
    refine gw_ev HF42 (want_none rfl) rfl (by decide) (op_geq rfl (HF42.ev rfl) (ev_c _ _)) ?_
    intro a43 HF44; clear HF42
    refine gw_ev HF44 (want_none rfl) rfl (by decide) (op_move rfl (HF44.ev rfl)) ?_
    intro a45 HF46; clear HF44
    refine gw_evG HF46 rfl rfl rfl rfl (on_t _) rfl (by decide) (fun h_ => (op_field (gwfld70_0 _ _) rfl (HF46.ev rfl))) ?_
    intro a47 HF48; clear HF46
    refine gw_evG HF48 rfl rfl rfl rfl (on_t _) rfl (by decide) (fun h_ => (op_load1 gwagg3 rfl (ev_gv (HF48.ev rfl) h_) (blk_at (HO7.get 0 rfl) rfl))) ?_
    intro a49 HF50; clear HF48
    refine gw_evG HF50 rfl rfl rfl rfl (on_t _) rfl (by decide) (fun h_ => (op_leq rfl (ev_gv (HF50.ev rfl) h_) (ev_c _ _))) ?_
    intro a51 HF52; clear HF50
    refine gw_ev HF52 (want_none rfl) rfl (by decide) (op_pick_and rfl (HF52.ev rfl) (fun hp_ => (ev_gv (HF52.ev rfl) hp_)) (ev_c _ _)) ?_
    intro a53 HF54; clear HF52
    refine gw_ev HF54 (want_none rfl) rfl (by decide) (op_move rfl (HF54.ev rfl)) ?_
    intro a55 HF56; clear HF54
    refine gw_evG HF56 rfl rfl rfl rfl (on_t _) rfl (by decide) (fun h_ => (op_field (gwfld70_1 _ _) rfl (HF56.ev rfl))) ?_
    intro a57 HF58; clear HF56
    refine gw_evG HF58 rfl rfl rfl rfl (on_t _) rfl (by decide) (fun h_ => (op_load1 gwagg3 rfl (ev_gv (HF58.ev rfl) h_) (blk_at (HO7.get 0 rfl) rfl))) ?_
    intro a59 HF60; clear HF58
    refine gw_evG HF60 rfl rfl rfl rfl (on_t _) rfl (by decide) (fun h_ => (op_move rfl (HF60.ev rfl))) ?_
    intro a61 HF62; clear HF60
    refine gw_evG HF62 rfl rfl rfl rfl (on_t _) rfl (by decide) (fun h_ => (op_geq rfl (ev_gv (HF62.ev rfl) h_) (ev_gv (HF62.ev rfl) h_))) ?_
    intro a63 HF64; clear HF62
    refine gw_ev HF64 (want_none rfl) rfl (by decide) (op_pick_and rfl (HF64.ev rfl) (fun hp_ => (ev_gv (HF64.ev rfl) hp_)) (ev_c _ _)) ?_
    intro a65 HF66; clear HF64
    refine gw_ev HF66 (want_none rfl) rfl (by decide) (op_move rfl (HF66.ev rfl)) ?_
    intro a67 HF68; clear HF66
    refine gw_evG HF68 rfl rfl rfl rfl (on_t _) rfl (by decide) (fun h_ => (op_field (gwfld70_1 _ _) rfl (HF68.ev rfl))) ?_
    intro a69 HF70; clear HF68
    refine gw_evG HF70 rfl rfl rfl rfl (on_t _) rfl (by decide) (fun h_ => (op_load1 gwagg3 rfl (ev_gv (HF70.ev rfl) h_) (blk_at (HO7.get 0 rfl) rfl))) ?_
    intro a71 HF72; clear HF70
    refine gw_evG HF72 rfl rfl rfl rfl (on_t _) rfl (by decide) (fun h_ => (op_move rfl (HF72.ev rfl))) ?_
    intro a73 HF74; clear HF72
    refine gw_evG HF74 rfl rfl rfl rfl (on_t _) rfl (by decide) (fun h_ => (op_leq rfl (ev_gv (HF74.ev rfl) h_) (ev_gv (HF74.ev rfl) h_))) ?_
    intro a75 HF76; clear HF74
    refine gw_ev HF76 (want_none rfl) rfl (by decide) (op_pick_and rfl (HF76.ev rfl) (fun hp_ => (ev_gv (HF76.ev rfl) hp_)) (ev_c _ _)) ?_
    intro a77 HF78; clear HF76
    refine gw_ev HF78 (want_none rfl) rfl (by decide) (op_move rfl (HF78.ev rfl)) ?_
    intro a79 HF80; clear HF78
    refine gw_evG HF80 rfl rfl rfl rfl (on_t _) rfl (by decide) (fun h_ => (op_move rfl (HF80.ev rfl))) ?_
    intro a81 HF82; clear HF80
    refine gw_evG HF82 rfl rfl rfl rfl (on_t _) rfl (by decide) (fun h_ => (op_move rfl (ev_gv (HF82.ev rfl) h_))) ?_
    intro a83 HF84; clear HF82
    refine gw_evG HF84 rfl rfl rfl rfl (on_gf _ _) rfl (by decide) (fun h_ => (op_field (gwfld70_2 _ _) rfl (HF84.ev rfl))) ?_
    intro a85 HF86; clear HF84
    refine gw_evG HF86 rfl rfl rfl rfl (on_gf _ _) rfl (by decide) (fun h_ => (op_load1 gwagg9 rfl (ev_gv (HF86.ev rfl) (andi (and1 h_) (and2 h_))) (blk_at (HO7.get 0 rfl) rfl))) ?_
    intro a87 HF88; clear HF86
    refine gw_evG HF88 rfl rfl rfl rfl (on_gf _ _) rfl (by decide) (fun h_ => (op_eqs rfl (ev_gv (HF88.ev rfl) (andi (and1 h_) (and2 h_))) (ev_c _ _))) ?_
    intro a89 HF90; clear HF88
    refine gw_evG HF90 rfl rfl rfl rfl (on_t _) rfl (by decide) (fun h_ => (op_pick_f rfl (ev_gv (HF90.ev rfl) h_) (ev_gv (HF90.ev rfl) (andi h_ (by rfl))))) ?_
    intro a91 HF92; clear HF90
    refine gw_ev HF92 (want_none rfl) rfl (by decide) (op_pick_and rfl (HF92.ev rfl) (fun hp_ => (ev_gv (HF92.ev rfl) hp_)) (ev_c _ _)) ?_
    intro a93 HF94; clear HF92
    refine gw_ev HF94 (want_none rfl) rfl (by decide) (op_move rfl (HF94.ev rfl)) ?_
    intro a95 HF96; clear HF94
    refine gw_evG HF96 rfl rfl rfl rfl (on_t _) rfl (by decide) (fun h_ => (op_field (gwfld70_3 _ _) rfl (HF96.ev rfl))) ?_
    intro a97 HF98; clear HF96
    refine gw_evG HF98 rfl rfl rfl rfl (on_t _) rfl (by decide) (fun h_ => (op_load1 gwagg2 rfl (ev_gv (HF98.ev rfl) h_) (blk_at (HO7.get 0 rfl) rfl))) ?_
    intro a99 HF100; clear HF98
    refine gw_evG HF100 rfl rfl rfl rfl (on_t _) rfl (by decide) (fun h_ => (op_geq rfl (ev_gv (HF100.ev rfl) h_) (ev_c _ _))) ?_
    intro a101 HF102; clear HF100
    refine gw_ev HF102 (want_none rfl) rfl (by decide) (op_pick_and rfl (HF102.ev rfl) (fun hp_ => (ev_gv (HF102.ev rfl) hp_)) (ev_c _ _)) ?_
    intro a103 HF104; clear HF102
    refine gw_ev HF104 (want_none rfl) rfl (by decide) (op_assign rfl (HF104.ev rfl)) ?_
    intro a105 HF106; clear HF104
    refine wpList_nil ?_
    refine gw_nx (hK38 _ _ ?_)
    refine wp_ret ?_
    refine gw_ret1 HF106 rfl rfl ?_
    exact ⟨by congr 2; unfold rightL noText; rw [Bool.eq_iff_iff]; simp_all <;> (intros; omega), HO7.below⟩
  · skip
    have HF107 := HF28.subst_ (d := 8) (b := false) rfl hb29
    clear HF28
    (try simp only [Bool.and_eq_true, Bool.or_eq_true, Bool.and_eq_false_iff, Bool.or_eq_false_iff, Bool.not_and, Bool.not_or, Bool.not_not, decide_eq_true_eq, decide_eq_false_iff_not, Bool.not_eq_true', Bool.not_eq_false', Bool.not_eq_true, Bool.not_eq_false, ne_eq, Decidable.not_not, Int.not_lt, Int.not_le, not_true_eq_false, not_false_eq_true, bne_iff_ne, beq_iff_eq, bne_eq_false_iff_eq, beq_eq_false_iff_ne] at hb29)
    refine wp_region_lit ?_
    refine gw_ev HF107 (want_none rfl) rfl (by decide) (op_eqi rfl (HF107.ev rfl) (ev_c _ _)) ?_
    intro a108 HF109; clear HF107
    refine gw_ev HF109 (want_none rfl) rfl (by decide) (op_assign rfl (HF109.ev rfl)) ?_
    intro a110 HF111; clear HF109
    refine wpList_nil ?_
    refine gw_nx (hK23 _ _ ?_)
    refine gw_cond HF111 rfl (fun hb112 => ?_) (fun hb112 => ?_)
    · skip
      have HF113 := HF111.subst_ (d := 8) (b := true) rfl hb112
      clear HF111
      (try simp only [Bool.and_eq_true, Bool.or_eq_true, Bool.and_eq_false_iff, Bool.or_eq_false_iff, Bool.not_and, Bool.not_or, Bool.not_not, decide_eq_true_eq, decide_eq_false_iff_not, Bool.not_eq_true', Bool.not_eq_false', Bool.not_eq_true, Bool.not_eq_false, ne_eq, Decidable.not_not, Int.not_lt, Int.not_le, not_true_eq_false, not_false_eq_true, bne_iff_ne, beq_iff_eq, bne_eq_false_iff_eq, beq_eq_false_iff_ne] at hb112)
      refine wp_region_lit ?_
      refine gw_ev HF113 (want_none rfl) rfl (by decide) (op_field (gwfld70_1 _ _) rfl (HF113.ev rfl)) ?_
      intro a114 HF115; clear HF113
      refine gw_ev HF115 (want_none rfl) rfl (by decide) (op_load1 gwagg3 rfl (HF115.ev rfl) (blk_at (HO7.get 0 rfl) rfl)) ?_
      intro a116 HF117; clear HF115
      refine gw_ev HF117 (want_none rfl) rfl (by decide) (op_assign rfl (HF117.ev rfl)) ?_
      intro a118 HF119; clear HF117
      refine wpList_nil ?_
      refine gw_blk ?_
      refine gw_nx (hK17 _ _ ?_)
      refine gw_seq fun K120 hK120 => ?_
      refine wp_region_lit ?_
      refine gw_ev HF119 (want_none rfl) rfl (by decide) (op_field (gwfld70_0 _ _) rfl (HF119.ev rfl)) ?_
      intro a121 HF122; clear HF119
      refine gw_ev HF122 (want_none rfl) rfl (by decide) (op_load1 gwagg3 rfl (HF122.ev rfl) (blk_at (HO7.get 0 rfl) rfl)) ?_
      intro a123 HF124; clear HF122
      refine gw_ev HF124 (want_none rfl) rfl (by decide) (op_geq rfl (HF124.ev rfl) (ev_c _ _)) ?_
      intro a125 HF126; clear HF124
      refine gw_ev HF126 (want_none rfl) rfl (by decide) (op_move rfl (HF126.ev rfl)) ?_
      intro a127 HF128; clear HF126
      refine gw_evG HF128 rfl rfl rfl rfl (on_t _) rfl (by decide) (fun h_ => (op_field (gwfld70_0 _ _) rfl (HF128.ev rfl))) ?_
      intro a129 HF130; clear HF128
      refine gw_evG HF130 rfl rfl rfl rfl (on_t _) rfl (by decide) (fun h_ => (op_load1 gwagg3 rfl (ev_gv (HF130.ev rfl) h_) (blk_at (HO7.get 0 rfl) rfl))) ?_
      intro a131 HF132; clear HF130
      refine gw_evG HF132 rfl rfl rfl rfl (on_t _) rfl (by decide) (fun h_ => (op_leq rfl (ev_gv (HF132.ev rfl) h_) (ev_c _ _))) ?_
      intro a133 HF134; clear HF132
      refine gw_ev HF134 (want_none rfl) rfl (by decide) (op_pick_and rfl (HF134.ev rfl) (fun hp_ => (ev_gv (HF134.ev rfl) hp_)) (ev_c _ _)) ?_
      intro a135 HF136; clear HF134
      refine gw_ev HF136 (want_none rfl) rfl (by decide) (op_move rfl (HF136.ev rfl)) ?_
      intro a137 HF138; clear HF136
      refine gw_evG HF138 rfl rfl rfl rfl (on_t _) rfl (by decide) (fun h_ => (op_field (gwfld70_1 _ _) rfl (HF138.ev rfl))) ?_
      intro a139 HF140; clear HF138
      refine gw_evG HF140 rfl rfl rfl rfl (on_t _) rfl (by decide) (fun h_ => (op_load1 gwagg3 rfl (ev_gv (HF140.ev rfl) h_) (blk_at (HO7.get 0 rfl) rfl))) ?_
      intro a141 HF142; clear HF140
      refine gw_evG HF142 rfl rfl rfl rfl (on_t _) rfl (by decide) (fun h_ => (op_move rfl (HF142.ev rfl))) ?_
      intro a143 HF144; clear HF142
      refine gw_evG HF144 rfl rfl rfl rfl (on_t _) rfl (by decide) (fun h_ => (op_geq rfl (ev_gv (HF144.ev rfl) h_) (ev_gv (HF144.ev rfl) h_))) ?_
      intro a145 HF146; clear HF144
      refine gw_ev HF146 (want_none rfl) rfl (by decide) (op_pick_and rfl (HF146.ev rfl) (fun hp_ => (ev_gv (HF146.ev rfl) hp_)) (ev_c _ _)) ?_
      intro a147 HF148; clear HF146
      refine gw_ev HF148 (want_none rfl) rfl (by decide) (op_move rfl (HF148.ev rfl)) ?_
      intro a149 HF150; clear HF148
      refine gw_evG HF150 rfl rfl rfl rfl (on_t _) rfl (by decide) (fun h_ => (op_field (gwfld70_1 _ _) rfl (HF150.ev rfl))) ?_
      intro a151 HF152; clear HF150
      refine gw_evG HF152 rfl rfl rfl rfl (on_t _) rfl (by decide) (fun h_ => (op_load1 gwagg3 rfl (ev_gv (HF152.ev rfl) h_) (blk_at (HO7.get 0 rfl) rfl))) ?_
      intro a153 HF154; clear HF152
      refine gw_evG HF154 rfl rfl rfl rfl (on_t _) rfl (by decide) (fun h_ => (op_move rfl (HF154.ev rfl))) ?_
      intro a155 HF156; clear HF154
      refine gw_evG HF156 rfl rfl rfl rfl (on_t _) rfl (by decide) (fun h_ => (op_leq rfl (ev_gv (HF156.ev rfl) h_) (ev_gv (HF156.ev rfl) h_))) ?_
      intro a157 HF158; clear HF156
      refine gw_ev HF158 (want_none rfl) rfl (by decide) (op_pick_and rfl (HF158.ev rfl) (fun hp_ => (ev_gv (HF158.ev rfl) hp_)) (ev_c _ _)) ?_
      intro a159 HF160; clear HF158
      refine gw_ev HF160 (want_none rfl) rfl (by decide) (op_move rfl (HF160.ev rfl)) ?_
      intro a161 HF162; clear HF160
      refine gw_evG HF162 rfl rfl rfl rfl (on_t _) rfl (by decide) (fun h_ => (op_move rfl (HF162.ev rfl))) ?_
      intro a163 HF164; clear HF162
      refine gw_evG HF164 rfl rfl rfl rfl (on_t _) rfl (by decide) (fun h_ => (op_move rfl (ev_gv (HF164.ev rfl) h_))) ?_
      intro a165 HF166; clear HF164
      refine gw_evG HF166 rfl rfl rfl rfl (on_gf _ _) rfl (by decide) (fun h_ => (op_field (gwfld70_2 _ _) rfl (HF166.ev rfl))) ?_
      intro a167 HF168; clear HF166
      refine gw_evG HF168 rfl rfl rfl rfl (on_gf _ _) rfl (by decide) (fun h_ => (op_load1 gwagg9 rfl (ev_gv (HF168.ev rfl) (andi (and1 h_) (and2 h_))) (blk_at (HO7.get 0 rfl) rfl))) ?_
      intro a169 HF170; clear HF168
      refine gw_evG HF170 rfl rfl rfl rfl (on_gf _ _) rfl (by decide) (fun h_ => (op_eqs rfl (ev_gv (HF170.ev rfl) (andi (and1 h_) (and2 h_))) (ev_c _ _))) ?_
      intro a171 HF172; clear HF170
      refine gw_evG HF172 rfl rfl rfl rfl (on_t _) rfl (by decide) (fun h_ => (op_pick_f rfl (ev_gv (HF172.ev rfl) h_) (ev_gv (HF172.ev rfl) (andi h_ (by rfl))))) ?_
      intro a173 HF174; clear HF172
      refine gw_ev HF174 (want_none rfl) rfl (by decide) (op_pick_and rfl (HF174.ev rfl) (fun hp_ => (ev_gv (HF174.ev rfl) hp_)) (ev_c _ _)) ?_
      intro a175 HF176; clear HF174
      refine gw_ev HF176 (want_none rfl) rfl (by decide) (op_move rfl (HF176.ev rfl)) ?_
      intro a177 HF178; clear HF176
      refine gw_evG HF178 rfl rfl rfl rfl (on_t _) rfl (by decide) (fun h_ => (op_field (gwfld70_3 _ _) rfl (HF178.ev rfl))) ?_
      intro a179 HF180; clear HF178
      refine gw_evG HF180 rfl rfl rfl rfl (on_t _) rfl (by decide) (fun h_ => (op_load1 gwagg2 rfl (ev_gv (HF180.ev rfl) h_) (blk_at (HO7.get 0 rfl) rfl))) ?_
      intro a181 HF182; clear HF180
      refine gw_evG HF182 rfl rfl rfl rfl (on_t _) rfl (by decide) (fun h_ => (op_geq rfl (ev_gv (HF182.ev rfl) h_) (ev_c _ _))) ?_
      intro a183 HF184; clear HF182
      refine gw_ev HF184 (want_none rfl) rfl (by decide) (op_pick_and rfl (HF184.ev rfl) (fun hp_ => (ev_gv (HF184.ev rfl) hp_)) (ev_c _ _)) ?_
      intro a185 HF186; clear HF184
      refine gw_ev HF186 (want_none rfl) rfl (by decide) (op_assign rfl (HF186.ev rfl)) ?_
      intro a187 HF188; clear HF186
      refine wpList_nil ?_
      refine gw_nx (hK120 _ _ ?_)
      refine wp_ret ?_
      refine gw_ret1 HF188 rfl rfl ?_
      exact ⟨by congr 2; unfold rightL noText; rw [Bool.eq_iff_iff]; simp_all <;> (intros; omega), HO7.below⟩
    · skip
      have HF189 := HF111.subst_ (d := 8) (b := false) rfl hb112
      clear HF111
      (try simp only [Bool.and_eq_true, Bool.or_eq_true, Bool.and_eq_false_iff, Bool.or_eq_false_iff, Bool.not_and, Bool.not_or, Bool.not_not, decide_eq_true_eq, decide_eq_false_iff_not, Bool.not_eq_true', Bool.not_eq_false', Bool.not_eq_true, Bool.not_eq_false, ne_eq, Decidable.not_not, Int.not_lt, Int.not_le, not_true_eq_false, not_false_eq_true, bne_iff_ne, beq_iff_eq, bne_eq_false_iff_eq, beq_eq_false_iff_ne] at hb112)
      refine gw_seq fun K190 hK190 => ?_
      refine gw_seq fun K191 hK191 => ?_
      refine wp_region_lit ?_
      refine gw_ev HF189 (want_none rfl) rfl (by decide) (op_eqi rfl (HF189.ev rfl) (ev_c _ _)) ?_
      intro a192 HF193; clear HF189
      refine gw_ev HF193 (want_none rfl) rfl (by decide) (op_assign rfl (HF193.ev rfl)) ?_
      intro a194 HF195; clear HF193
      refine wpList_nil ?_
      refine gw_nx (hK191 _ _ ?_)
      refine gw_cond HF195 rfl (fun hb196 => ?_) (fun hb196 => ?_)
      · skip
        have HF197 := HF195.subst_ (d := 13) (b := true) rfl hb196
        clear HF195
        (try simp only [Bool.and_eq_true, Bool.or_eq_true, Bool.and_eq_false_iff, Bool.or_eq_false_iff, Bool.not_and, Bool.not_or, Bool.not_not, decide_eq_true_eq, decide_eq_false_iff_not, Bool.not_eq_true', Bool.not_eq_false', Bool.not_eq_true, Bool.not_eq_false, ne_eq, Decidable.not_not, Int.not_lt, Int.not_le, not_true_eq_false, not_false_eq_true, bne_iff_ne, beq_iff_eq, bne_eq_false_iff_eq, beq_eq_false_iff_ne] at hb196)
        refine wp_skip ?_
        refine gw_nx (hK190 _ _ ?_)
        refine gw_cond HF197 rfl (fun hb198 => ?_) (fun hb198 => ?_)
        rotate_left
        · cases hb198
        refine wp_region_lit ?_
        refine gw_ev HF197 (want_none rfl) rfl (by decide) (op_field (gwfld70_1 _ _) rfl (HF197.ev rfl)) ?_
        intro a199 HF200; clear HF197
        refine gw_ev HF200 (want_none rfl) rfl (by decide) (op_load1 gwagg3 rfl (HF200.ev rfl) (blk_at (HO7.get 0 rfl) rfl)) ?_
        intro a201 HF202; clear HF200
        refine gw_ev HF202 (want_none rfl) rfl (by decide) (op_assign rfl (HF202.ev rfl)) ?_
        intro a203 HF204; clear HF202
        refine gw_ev HF204 (want_none rfl) rfl (by decide) (op_assign rfl (ev_c _ _)) ?_
        intro a205 HF206; clear HF204
        refine wpList_nil ?_
        refine gw_blk ?_
        refine gw_nx (hK17 _ _ ?_)
        refine gw_seq fun K207 hK207 => ?_
        refine wp_region_lit ?_
        refine gw_ev HF206 (want_none rfl) rfl (by decide) (op_field (gwfld70_0 _ _) rfl (HF206.ev rfl)) ?_
        intro a208 HF209; clear HF206
        refine gw_ev HF209 (want_none rfl) rfl (by decide) (op_load1 gwagg3 rfl (HF209.ev rfl) (blk_at (HO7.get 0 rfl) rfl)) ?_
        intro a210 HF211; clear HF209
        refine gw_ev HF211 (want_none rfl) rfl (by decide) (op_geq rfl (HF211.ev rfl) (ev_c _ _)) ?_
        intro a212 HF213; clear HF211
        refine gw_ev HF213 (want_none rfl) rfl (by decide) (op_move rfl (HF213.ev rfl)) ?_
        intro a214 HF215; clear HF213
        refine gw_evG HF215 rfl rfl rfl rfl (on_t _) rfl (by decide) (fun h_ => (op_field (gwfld70_0 _ _) rfl (HF215.ev rfl))) ?_
        intro a216 HF217; clear HF215
        refine gw_evG HF217 rfl rfl rfl rfl (on_t _) rfl (by decide) (fun h_ => (op_load1 gwagg3 rfl (ev_gv (HF217.ev rfl) h_) (blk_at (HO7.get 0 rfl) rfl))) ?_
        intro a218 HF219; clear HF217
        refine gw_evG HF219 rfl rfl rfl rfl (on_t _) rfl (by decide) (fun h_ => (op_leq rfl (ev_gv (HF219.ev rfl) h_) (ev_c _ _))) ?_
        intro a220 HF221; clear HF219
        refine gw_ev HF221 (want_none rfl) rfl (by decide) (op_pick_and rfl (HF221.ev rfl) (fun hp_ => (ev_gv (HF221.ev rfl) hp_)) (ev_c _ _)) ?_
        intro a222 HF223; clear HF221
        refine gw_ev HF223 (want_none rfl) rfl (by decide) (op_move rfl (HF223.ev rfl)) ?_
        intro a224 HF225; clear HF223
        refine gw_evG HF225 rfl rfl rfl rfl (on_t _) rfl (by decide) (fun h_ => (op_field (gwfld70_1 _ _) rfl (HF225.ev rfl))) ?_
        intro a226 HF227; clear HF225
        refine gw_evG HF227 rfl rfl rfl rfl (on_t _) rfl (by decide) (fun h_ => (op_load1 gwagg3 rfl (ev_gv (HF227.ev rfl) h_) (blk_at (HO7.get 0 rfl) rfl))) ?_
        intro a228 HF229; clear HF227
        refine gw_evG HF229 rfl rfl rfl rfl (on_t _) rfl (by decide) (fun h_ => (op_move rfl (HF229.ev rfl))) ?_
        intro a230 HF231; clear HF229
        refine gw_evG HF231 rfl rfl rfl rfl (on_t _) rfl (by decide) (fun h_ => (op_geq rfl (ev_gv (HF231.ev rfl) h_) (ev_gv (HF231.ev rfl) h_))) ?_
        intro a232 HF233; clear HF231
        refine gw_ev HF233 (want_none rfl) rfl (by decide) (op_pick_and rfl (HF233.ev rfl) (fun hp_ => (ev_gv (HF233.ev rfl) hp_)) (ev_c _ _)) ?_
        intro a234 HF235; clear HF233
        refine gw_ev HF235 (want_none rfl) rfl (by decide) (op_move rfl (HF235.ev rfl)) ?_
        intro a236 HF237; clear HF235
        refine gw_evG HF237 rfl rfl rfl rfl (on_t _) rfl (by decide) (fun h_ => (op_field (gwfld70_1 _ _) rfl (HF237.ev rfl))) ?_
        intro a238 HF239; clear HF237
        refine gw_evG HF239 rfl rfl rfl rfl (on_t _) rfl (by decide) (fun h_ => (op_load1 gwagg3 rfl (ev_gv (HF239.ev rfl) h_) (blk_at (HO7.get 0 rfl) rfl))) ?_
        intro a240 HF241; clear HF239
        refine gw_evG HF241 rfl rfl rfl rfl (on_t _) rfl (by decide) (fun h_ => (op_move rfl (HF241.ev rfl))) ?_
        intro a242 HF243; clear HF241
        refine gw_evG HF243 rfl rfl rfl rfl (on_t _) rfl (by decide) (fun h_ => (op_leq rfl (ev_gv (HF243.ev rfl) h_) (ev_gv (HF243.ev rfl) h_))) ?_
        intro a244 HF245; clear HF243
        refine gw_ev HF245 (want_none rfl) rfl (by decide) (op_pick_and rfl (HF245.ev rfl) (fun hp_ => (ev_gv (HF245.ev rfl) hp_)) (ev_c _ _)) ?_
        intro a246 HF247; clear HF245
        refine gw_ev HF247 (want_none rfl) rfl (by decide) (op_move rfl (HF247.ev rfl)) ?_
        intro a248 HF249; clear HF247
        refine gw_evG HF249 rfl rfl rfl rfl (on_t _) rfl (by decide) (fun h_ => (op_move rfl (HF249.ev rfl))) ?_
        intro a250 HF251; clear HF249
        refine gw_evG HF251 rfl rfl rfl rfl (on_t _) rfl (by decide) (fun h_ => (op_move rfl (ev_gv (HF251.ev rfl) h_))) ?_
        intro a252 HF253; clear HF251
        refine gw_evG HF253 rfl rfl rfl rfl (on_gf _ _) rfl (by decide) (fun h_ => (op_field (gwfld70_2 _ _) rfl (HF253.ev rfl))) ?_
        intro a254 HF255; clear HF253
        refine gw_evG HF255 rfl rfl rfl rfl (on_gf _ _) rfl (by decide) (fun h_ => (op_load1 gwagg9 rfl (ev_gv (HF255.ev rfl) (andi (and1 h_) (and2 h_))) (blk_at (HO7.get 0 rfl) rfl))) ?_
        intro a256 HF257; clear HF255
        refine gw_evG HF257 rfl rfl rfl rfl (on_gf _ _) rfl (by decide) (fun h_ => (op_eqs rfl (ev_gv (HF257.ev rfl) (andi (and1 h_) (and2 h_))) (ev_c _ _))) ?_
        intro a258 HF259; clear HF257
        refine gw_evG HF259 rfl rfl rfl rfl (on_t _) rfl (by decide) (fun h_ => (op_pick_t rfl (ev_gv (HF259.ev rfl) h_) (ev_c _ _))) ?_
        intro a260 HF261; clear HF259
        refine gw_ev HF261 (want_none rfl) rfl (by decide) (op_pick_and rfl (HF261.ev rfl) (fun hp_ => (ev_gv (HF261.ev rfl) hp_)) (ev_c _ _)) ?_
        intro a262 HF263; clear HF261
        refine gw_ev HF263 (want_none rfl) rfl (by decide) (op_move rfl (HF263.ev rfl)) ?_
        intro a264 HF265; clear HF263
        refine gw_evG HF265 rfl rfl rfl rfl (on_t _) rfl (by decide) (fun h_ => (op_field (gwfld70_3 _ _) rfl (HF265.ev rfl))) ?_
        intro a266 HF267; clear HF265
        refine gw_evG HF267 rfl rfl rfl rfl (on_t _) rfl (by decide) (fun h_ => (op_load1 gwagg2 rfl (ev_gv (HF267.ev rfl) h_) (blk_at (HO7.get 0 rfl) rfl))) ?_
        intro a268 HF269; clear HF267
        refine gw_evG HF269 rfl rfl rfl rfl (on_t _) rfl (by decide) (fun h_ => (op_geq rfl (ev_gv (HF269.ev rfl) h_) (ev_c _ _))) ?_
        intro a270 HF271; clear HF269
        refine gw_ev HF271 (want_none rfl) rfl (by decide) (op_pick_and rfl (HF271.ev rfl) (fun hp_ => (ev_gv (HF271.ev rfl) hp_)) (ev_c _ _)) ?_
        intro a272 HF273; clear HF271
        refine gw_ev HF273 (want_none rfl) rfl (by decide) (op_assign rfl (HF273.ev rfl)) ?_
        intro a274 HF275; clear HF273
        refine wpList_nil ?_
        refine gw_nx (hK207 _ _ ?_)
        refine wp_ret ?_
        refine gw_ret1 HF275 rfl rfl ?_
        exact ⟨by congr 2; unfold rightL noText; rw [Bool.eq_iff_iff]; simp_all <;> (intros; omega), HO7.below⟩
      · skip
        have HF276 := HF195.subst_ (d := 13) (b := false) rfl hb196
        clear HF195
        (try simp only [Bool.and_eq_true, Bool.or_eq_true, Bool.and_eq_false_iff, Bool.or_eq_false_iff, Bool.not_and, Bool.not_or, Bool.not_not, decide_eq_true_eq, decide_eq_false_iff_not, Bool.not_eq_true', Bool.not_eq_false', Bool.not_eq_true, Bool.not_eq_false, ne_eq, Decidable.not_not, Int.not_lt, Int.not_le, not_true_eq_false, not_false_eq_true, bne_iff_ne, beq_iff_eq, bne_eq_false_iff_eq, beq_eq_false_iff_ne] at hb196)
        refine wp_region_lit ?_
        refine gw_ev HF276 (want_none rfl) rfl (by decide) (op_eqi rfl (HF276.ev rfl) (ev_c _ _)) ?_
        intro a277 HF278; clear HF276
        refine gw_ev HF278 (want_none rfl) rfl (by decide) (op_assign rfl (HF278.ev rfl)) ?_
        intro a279 HF280; clear HF278
        refine wpList_nil ?_
        refine gw_nx (hK190 _ _ ?_)
        refine gw_cond HF280 rfl (fun hb281 => ?_) (fun hb281 => ?_)
        · skip
          have HF282 := HF280.subst_ (d := 13) (b := true) rfl hb281
          clear HF280
          (try simp only [Bool.and_eq_true, Bool.or_eq_true, Bool.and_eq_false_iff, Bool.or_eq_false_iff, Bool.not_and, Bool.not_or, Bool.not_not, decide_eq_true_eq, decide_eq_false_iff_not, Bool.not_eq_true', Bool.not_eq_false', Bool.not_eq_true, Bool.not_eq_false, ne_eq, Decidable.not_not, Int.not_lt, Int.not_le, not_true_eq_false, not_false_eq_true, bne_iff_ne, beq_iff_eq, bne_eq_false_iff_eq, beq_eq_false_iff_ne] at hb281)
          refine wp_region_lit ?_
          refine gw_ev HF282 (want_none rfl) rfl (by decide) (op_field (gwfld70_1 _ _) rfl (HF282.ev rfl)) ?_
          intro a283 HF284; clear HF282
          refine gw_ev HF284 (want_none rfl) rfl (by decide) (op_load1 gwagg3 rfl (HF284.ev rfl) (blk_at (HO7.get 0 rfl) rfl)) ?_
          intro a285 HF286; clear HF284
          refine gw_ev HF286 (want_none rfl) rfl (by decide) (op_assign rfl (HF286.ev rfl)) ?_
          intro a287 HF288; clear HF286
          refine gw_ev HF288 (want_none rfl) rfl (by decide) (op_assign rfl (ev_c _ _)) ?_
          intro a289 HF290; clear HF288
          refine wpList_nil ?_
          refine gw_blk ?_
          refine gw_nx (hK17 _ _ ?_)
          refine gw_seq fun K291 hK291 => ?_
          refine wp_region_lit ?_
          refine gw_ev HF290 (want_none rfl) rfl (by decide) (op_field (gwfld70_0 _ _) rfl (HF290.ev rfl)) ?_
          intro a292 HF293; clear HF290
          refine gw_ev HF293 (want_none rfl) rfl (by decide) (op_load1 gwagg3 rfl (HF293.ev rfl) (blk_at (HO7.get 0 rfl) rfl)) ?_
          intro a294 HF295; clear HF293
          refine gw_ev HF295 (want_none rfl) rfl (by decide) (op_geq rfl (HF295.ev rfl) (ev_c _ _)) ?_
          intro a296 HF297; clear HF295
          refine gw_ev HF297 (want_none rfl) rfl (by decide) (op_move rfl (HF297.ev rfl)) ?_
          intro a298 HF299; clear HF297
          refine gw_evG HF299 rfl rfl rfl rfl (on_t _) rfl (by decide) (fun h_ => (op_field (gwfld70_0 _ _) rfl (HF299.ev rfl))) ?_
          intro a300 HF301; clear HF299
          refine gw_evG HF301 rfl rfl rfl rfl (on_t _) rfl (by decide) (fun h_ => (op_load1 gwagg3 rfl (ev_gv (HF301.ev rfl) h_) (blk_at (HO7.get 0 rfl) rfl))) ?_
          intro a302 HF303; clear HF301
          refine gw_evG HF303 rfl rfl rfl rfl (on_t _) rfl (by decide) (fun h_ => (op_leq rfl (ev_gv (HF303.ev rfl) h_) (ev_c _ _))) ?_
          intro a304 HF305; clear HF303
          refine gw_ev HF305 (want_none rfl) rfl (by decide) (op_pick_and rfl (HF305.ev rfl) (fun hp_ => (ev_gv (HF305.ev rfl) hp_)) (ev_c _ _)) ?_
          intro a306 HF307; clear HF305
          refine gw_ev HF307 (want_none rfl) rfl (by decide) (op_move rfl (HF307.ev rfl)) ?_
          intro a308 HF309; clear HF307
          refine gw_evG HF309 rfl rfl rfl rfl (on_t _) rfl (by decide) (fun h_ => (op_field (gwfld70_1 _ _) rfl (HF309.ev rfl))) ?_
          intro a310 HF311; clear HF309
          refine gw_evG HF311 rfl rfl rfl rfl (on_t _) rfl (by decide) (fun h_ => (op_load1 gwagg3 rfl (ev_gv (HF311.ev rfl) h_) (blk_at (HO7.get 0 rfl) rfl))) ?_
          intro a312 HF313; clear HF311
          refine gw_evG HF313 rfl rfl rfl rfl (on_t _) rfl (by decide) (fun h_ => (op_move rfl (HF313.ev rfl))) ?_
          intro a314 HF315; clear HF313
          refine gw_evG HF315 rfl rfl rfl rfl (on_t _) rfl (by decide) (fun h_ => (op_geq rfl (ev_gv (HF315.ev rfl) h_) (ev_gv (HF315.ev rfl) h_))) ?_
          intro a316 HF317; clear HF315
          refine gw_ev HF317 (want_none rfl) rfl (by decide) (op_pick_and rfl (HF317.ev rfl) (fun hp_ => (ev_gv (HF317.ev rfl) hp_)) (ev_c _ _)) ?_
          intro a318 HF319; clear HF317
          refine gw_ev HF319 (want_none rfl) rfl (by decide) (op_move rfl (HF319.ev rfl)) ?_
          intro a320 HF321; clear HF319
          refine gw_evG HF321 rfl rfl rfl rfl (on_t _) rfl (by decide) (fun h_ => (op_field (gwfld70_1 _ _) rfl (HF321.ev rfl))) ?_
          intro a322 HF323; clear HF321
          refine gw_evG HF323 rfl rfl rfl rfl (on_t _) rfl (by decide) (fun h_ => (op_load1 gwagg3 rfl (ev_gv (HF323.ev rfl) h_) (blk_at (HO7.get 0 rfl) rfl))) ?_
          intro a324 HF325; clear HF323
          refine gw_evG HF325 rfl rfl rfl rfl (on_t _) rfl (by decide) (fun h_ => (op_move rfl (HF325.ev rfl))) ?_
          intro a326 HF327; clear HF325
          refine gw_evG HF327 rfl rfl rfl rfl (on_t _) rfl (by decide) (fun h_ => (op_leq rfl (ev_gv (HF327.ev rfl) h_) (ev_gv (HF327.ev rfl) h_))) ?_
          intro a328 HF329; clear HF327
          refine gw_ev HF329 (want_none rfl) rfl (by decide) (op_pick_and rfl (HF329.ev rfl) (fun hp_ => (ev_gv (HF329.ev rfl) hp_)) (ev_c _ _)) ?_
          intro a330 HF331; clear HF329
          refine gw_ev HF331 (want_none rfl) rfl (by decide) (op_move rfl (HF331.ev rfl)) ?_
          intro a332 HF333; clear HF331
          refine gw_evG HF333 rfl rfl rfl rfl (on_t _) rfl (by decide) (fun h_ => (op_move rfl (HF333.ev rfl))) ?_
          intro a334 HF335; clear HF333
          refine gw_evG HF335 rfl rfl rfl rfl (on_t _) rfl (by decide) (fun h_ => (op_move rfl (ev_gv (HF335.ev rfl) h_))) ?_
          intro a336 HF337; clear HF335
          refine gw_evG HF337 rfl rfl rfl rfl (on_gf _ _) rfl (by decide) (fun h_ => (op_field (gwfld70_2 _ _) rfl (HF337.ev rfl))) ?_
          intro a338 HF339; clear HF337
          refine gw_evG HF339 rfl rfl rfl rfl (on_gf _ _) rfl (by decide) (fun h_ => (op_load1 gwagg9 rfl (ev_gv (HF339.ev rfl) (andi (and1 h_) (and2 h_))) (blk_at (HO7.get 0 rfl) rfl))) ?_
          intro a340 HF341; clear HF339
          refine gw_evG HF341 rfl rfl rfl rfl (on_gf _ _) rfl (by decide) (fun h_ => (op_eqs rfl (ev_gv (HF341.ev rfl) (andi (and1 h_) (and2 h_))) (ev_c _ _))) ?_
          intro a342 HF343; clear HF341
          refine gw_evG HF343 rfl rfl rfl rfl (on_t _) rfl (by decide) (fun h_ => (op_pick_t rfl (ev_gv (HF343.ev rfl) h_) (ev_c _ _))) ?_
          intro a344 HF345; clear HF343
          refine gw_ev HF345 (want_none rfl) rfl (by decide) (op_pick_and rfl (HF345.ev rfl) (fun hp_ => (ev_gv (HF345.ev rfl) hp_)) (ev_c _ _)) ?_
          intro a346 HF347; clear HF345
          refine gw_ev HF347 (want_none rfl) rfl (by decide) (op_move rfl (HF347.ev rfl)) ?_
          intro a348 HF349; clear HF347
          refine gw_evG HF349 rfl rfl rfl rfl (on_t _) rfl (by decide) (fun h_ => (op_field (gwfld70_3 _ _) rfl (HF349.ev rfl))) ?_
          intro a350 HF351; clear HF349
          refine gw_evG HF351 rfl rfl rfl rfl (on_t _) rfl (by decide) (fun h_ => (op_load1 gwagg2 rfl (ev_gv (HF351.ev rfl) h_) (blk_at (HO7.get 0 rfl) rfl))) ?_
          intro a352 HF353; clear HF351
          refine gw_evG HF353 rfl rfl rfl rfl (on_t _) rfl (by decide) (fun h_ => (op_geq rfl (ev_gv (HF353.ev rfl) h_) (ev_c _ _))) ?_
          intro a354 HF355; clear HF353
          refine gw_ev HF355 (want_none rfl) rfl (by decide) (op_pick_and rfl (HF355.ev rfl) (fun hp_ => (ev_gv (HF355.ev rfl) hp_)) (ev_c _ _)) ?_
          intro a356 HF357; clear HF355
          refine gw_ev HF357 (want_none rfl) rfl (by decide) (op_assign rfl (HF357.ev rfl)) ?_
          intro a358 HF359; clear HF357
          refine wpList_nil ?_
          refine gw_nx (hK291 _ _ ?_)
          refine wp_ret ?_
          refine gw_ret1 HF359 rfl rfl ?_
          exact ⟨by congr 2; unfold rightL noText; rw [Bool.eq_iff_iff]; simp_all <;> (intros; omega), HO7.below⟩
        · skip
          have HF360 := HF280.subst_ (d := 13) (b := false) rfl hb281
          clear HF280
          (try simp only [Bool.and_eq_true, Bool.or_eq_true, Bool.and_eq_false_iff, Bool.or_eq_false_iff, Bool.not_and, Bool.not_or, Bool.not_not, decide_eq_true_eq, decide_eq_false_iff_not, Bool.not_eq_true', Bool.not_eq_false', Bool.not_eq_true, Bool.not_eq_false, ne_eq, Decidable.not_not, Int.not_lt, Int.not_le, not_true_eq_false, not_false_eq_true, bne_iff_ne, beq_iff_eq, bne_eq_false_iff_eq, beq_eq_false_iff_ne] at hb281)
          refine gw_seq fun K361 hK361 => ?_
          refine gw_seq fun K362 hK362 => ?_
          refine wp_region_lit ?_
          refine gw_ev HF360 (want_none rfl) rfl (by decide) (op_eqi rfl (HF360.ev rfl) (ev_c _ _)) ?_
          intro a363 HF364; clear HF360
          refine gw_ev HF364 (want_none rfl) rfl (by decide) (op_assign rfl (HF364.ev rfl)) ?_
          intro a365 HF366; clear HF364
          refine wpList_nil ?_
          refine gw_nx (hK362 _ _ ?_)
          refine gw_cond HF366 rfl (fun hb367 => ?_) (fun hb367 => ?_)
          · skip
            have HF368 := HF366.subst_ (d := 18) (b := true) rfl hb367
            clear HF366
            (try simp only [Bool.and_eq_true, Bool.or_eq_true, Bool.and_eq_false_iff, Bool.or_eq_false_iff, Bool.not_and, Bool.not_or, Bool.not_not, decide_eq_true_eq, decide_eq_false_iff_not, Bool.not_eq_true', Bool.not_eq_false', Bool.not_eq_true, Bool.not_eq_false, ne_eq, Decidable.not_not, Int.not_lt, Int.not_le, not_true_eq_false, not_false_eq_true, bne_iff_ne, beq_iff_eq, bne_eq_false_iff_eq, beq_eq_false_iff_ne] at hb367)
            refine wp_skip ?_
            refine gw_nx (hK361 _ _ ?_)
            refine gw_cond HF368 rfl (fun hb369 => ?_) (fun hb369 => ?_)
            rotate_left
            · cases hb369
            refine gw_drawB HO7 (by kernel_rfl) (by kernel_rfl) fun w370 HO371 => ?_
            clear HO7
            refine gq_ev HF368 (want_none rfl) rfl (by decide) (fun wq hq => have HO := HO371.after hq; (op_field (gwfld70_1 _ _) rfl (HF368.ev rfl))) ?_
            intro a372 HF373; clear HF368
            refine gq_ev HF373 (want_none rfl) rfl (by decide) (fun wq hq => have HO := HO371.after hq; (op_load1 gwagg3 rfl (HF373.ev rfl) (blk_at (HO.get 0 rfl) rfl))) ?_
            intro a374 HF375; clear HF373
            refine gq_ev HF375 (want_none rfl) rfl (by decide) (fun wq hq => have HO := HO371.after hq; (op_assign rfl (ev_c _ _))) ?_
            intro a376 HF377; clear HF375
            refine gq_ev HF377 (want_none rfl) rfl (by decide) (fun wq hq => have HO := HO371.after hq; (op_assign rfl (HF377.ev rfl))) ?_
            intro a378 HF379; clear HF377
            refine wpQuiet_nil ?_
            intro w380 hq
            have HO381 := HO371.after hq
            clear HO371 hq
            refine gw_blk ?_
            refine gw_nx (hK17 _ _ ?_)
            refine gw_seq fun K382 hK382 => ?_
            refine wp_region_lit ?_
            refine gw_ev HF379 (want_none rfl) rfl (by decide) (op_field (gwfld70_0 _ _) rfl (HF379.ev rfl)) ?_
            intro a383 HF384; clear HF379
            refine gw_ev HF384 (want_none rfl) rfl (by decide) (op_load1 gwagg3 rfl (HF384.ev rfl) (blk_at (HO381.get 0 rfl) rfl)) ?_
            intro a385 HF386; clear HF384
            refine gw_ev HF386 (want_none rfl) rfl (by decide) (op_geq rfl (HF386.ev rfl) (ev_c _ _)) ?_
            intro a387 HF388; clear HF386
            refine gw_ev HF388 (want_none rfl) rfl (by decide) (op_move rfl (HF388.ev rfl)) ?_
            intro a389 HF390; clear HF388
            refine gw_evG HF390 rfl rfl rfl rfl (on_t _) rfl (by decide) (fun h_ => (op_field (gwfld70_0 _ _) rfl (HF390.ev rfl))) ?_
            intro a391 HF392; clear HF390
            refine gw_evG HF392 rfl rfl rfl rfl (on_t _) rfl (by decide) (fun h_ => (op_load1 gwagg3 rfl (ev_gv (HF392.ev rfl) h_) (blk_at (HO381.get 0 rfl) rfl))) ?_
            intro a393 HF394; clear HF392
            refine gw_evG HF394 rfl rfl rfl rfl (on_t _) rfl (by decide) (fun h_ => (op_leq rfl (ev_gv (HF394.ev rfl) h_) (ev_c _ _))) ?_
            intro a395 HF396; clear HF394
            refine gw_ev HF396 (want_none rfl) rfl (by decide) (op_pick_and rfl (HF396.ev rfl) (fun hp_ => (ev_gv (HF396.ev rfl) hp_)) (ev_c _ _)) ?_
            intro a397 HF398; clear HF396
            refine gw_ev HF398 (want_none rfl) rfl (by decide) (op_move rfl (HF398.ev rfl)) ?_
            intro a399 HF400; clear HF398
            refine gw_evG HF400 rfl rfl rfl rfl (on_t _) rfl (by decide) (fun h_ => (op_field (gwfld70_1 _ _) rfl (HF400.ev rfl))) ?_
            intro a401 HF402; clear HF400
            refine gw_evG HF402 rfl rfl rfl rfl (on_t _) rfl (by decide) (fun h_ => (op_load1 gwagg3 rfl (ev_gv (HF402.ev rfl) h_) (blk_at (HO381.get 0 rfl) rfl))) ?_
            intro a403 HF404; clear HF402
            refine gw_evG HF404 rfl rfl rfl rfl (on_t _) rfl (by decide) (fun h_ => (op_move rfl (HF404.ev rfl))) ?_
            intro a405 HF406; clear HF404
            refine gw_evG HF406 rfl rfl rfl rfl (on_t _) rfl (by decide) (fun h_ => (op_geq rfl (ev_gv (HF406.ev rfl) h_) (ev_gv (HF406.ev rfl) h_))) ?_
            intro a407 HF408; clear HF406
            refine gw_ev HF408 (want_none rfl) rfl (by decide) (op_pick_and rfl (HF408.ev rfl) (fun hp_ => (ev_gv (HF408.ev rfl) hp_)) (ev_c _ _)) ?_
            intro a409 HF410; clear HF408
            refine gw_ev HF410 (want_none rfl) rfl (by decide) (op_move rfl (HF410.ev rfl)) ?_
            intro a411 HF412; clear HF410
            refine gw_evG HF412 rfl rfl rfl rfl (on_t _) rfl (by decide) (fun h_ => (op_field (gwfld70_1 _ _) rfl (HF412.ev rfl))) ?_
            intro a413 HF414; clear HF412
            refine gw_evG HF414 rfl rfl rfl rfl (on_t _) rfl (by decide) (fun h_ => (op_load1 gwagg3 rfl (ev_gv (HF414.ev rfl) h_) (blk_at (HO381.get 0 rfl) rfl))) ?_
            intro a415 HF416; clear HF414
            refine gw_evG HF416 rfl rfl rfl rfl (on_t _) rfl (by decide) (fun h_ => (op_move rfl (HF416.ev rfl))) ?_
            intro a417 HF418; clear HF416
            refine gw_evG HF418 rfl rfl rfl rfl (on_t _) rfl (by decide) (fun h_ => (op_leq rfl (ev_gv (HF418.ev rfl) h_) (ev_gv (HF418.ev rfl) h_))) ?_
            intro a419 HF420; clear HF418
            refine gw_ev HF420 (want_none rfl) rfl (by decide) (op_pick_and rfl (HF420.ev rfl) (fun hp_ => (ev_gv (HF420.ev rfl) hp_)) (ev_c _ _)) ?_
            intro a421 HF422; clear HF420
            refine gw_ev HF422 (want_none rfl) rfl (by decide) (op_move rfl (HF422.ev rfl)) ?_
            intro a423 HF424; clear HF422
            refine gw_evG HF424 rfl rfl rfl rfl (on_t _) rfl (by decide) (fun h_ => (op_move rfl (HF424.ev rfl))) ?_
            intro a425 HF426; clear HF424
            refine gw_evG HF426 rfl rfl rfl rfl (on_t _) rfl (by decide) (fun h_ => (op_move rfl (ev_gv (HF426.ev rfl) h_))) ?_
            intro a427 HF428; clear HF426
            refine gw_evG HF428 rfl rfl rfl rfl (on_gf _ _) rfl (by decide) (fun h_ => (op_field (gwfld70_2 _ _) rfl (HF428.ev rfl))) ?_
            intro a429 HF430; clear HF428
            refine gw_evG HF430 rfl rfl rfl rfl (on_gf _ _) rfl (by decide) (fun h_ => (op_load1 gwagg9 rfl (ev_gv (HF430.ev rfl) (andi (and1 h_) (and2 h_))) (blk_at (HO381.get 0 rfl) rfl))) ?_
            intro a431 HF432; clear HF430
            refine gw_evG HF432 rfl rfl rfl rfl (on_gf _ _) rfl (by decide) (fun h_ => (op_eqs rfl (ev_gv (HF432.ev rfl) (andi (and1 h_) (and2 h_))) (ev_c _ _))) ?_
            intro a433 HF434; clear HF432
            refine gw_evG HF434 rfl rfl rfl rfl (on_t _) rfl (by decide) (fun h_ => (op_pick_f rfl (ev_gv (HF434.ev rfl) h_) (ev_gv (HF434.ev rfl) (andi h_ (by rfl))))) ?_
            intro a435 HF436; clear HF434
            refine gw_ev HF436 (want_none rfl) rfl (by decide) (op_pick_and rfl (HF436.ev rfl) (fun hp_ => (ev_gv (HF436.ev rfl) hp_)) (ev_c _ _)) ?_
            intro a437 HF438; clear HF436
            refine gw_ev HF438 (want_none rfl) rfl (by decide) (op_move rfl (HF438.ev rfl)) ?_
            intro a439 HF440; clear HF438
            refine gw_evG HF440 rfl rfl rfl rfl (on_t _) rfl (by decide) (fun h_ => (op_field (gwfld70_3 _ _) rfl (HF440.ev rfl))) ?_
            intro a441 HF442; clear HF440
            refine gw_evG HF442 rfl rfl rfl rfl (on_t _) rfl (by decide) (fun h_ => (op_load1 gwagg2 rfl (ev_gv (HF442.ev rfl) h_) (blk_at (HO381.get 0 rfl) rfl))) ?_
            intro a443 HF444; clear HF442
            refine gw_evG HF444 rfl rfl rfl rfl (on_t _) rfl (by decide) (fun h_ => (op_geq rfl (ev_gv (HF444.ev rfl) h_) (ev_c _ _))) ?_
            intro a445 HF446; clear HF444
            refine gw_ev HF446 (want_none rfl) rfl (by decide) (op_pick_and rfl (HF446.ev rfl) (fun hp_ => (ev_gv (HF446.ev rfl) hp_)) (ev_c _ _)) ?_
            intro a447 HF448; clear HF446
            refine gw_ev HF448 (want_none rfl) rfl (by decide) (op_assign rfl (HF448.ev rfl)) ?_
            intro a449 HF450; clear HF448
            refine wpList_nil ?_
            refine gw_nx (hK382 _ _ ?_)
            refine wp_ret ?_
            refine gw_ret1 HF450 rfl rfl ?_
            exact ⟨by congr 2; unfold rightL noText; rw [Bool.eq_iff_iff]; simp_all <;> (intros; omega), HO381.below⟩
          · skip
            have HF451 := HF366.subst_ (d := 18) (b := false) rfl hb367
            clear HF366
            (try simp only [Bool.and_eq_true, Bool.or_eq_true, Bool.and_eq_false_iff, Bool.or_eq_false_iff, Bool.not_and, Bool.not_or, Bool.not_not, decide_eq_true_eq, decide_eq_false_iff_not, Bool.not_eq_true', Bool.not_eq_false', Bool.not_eq_true, Bool.not_eq_false, ne_eq, Decidable.not_not, Int.not_lt, Int.not_le, not_true_eq_false, not_false_eq_true, bne_iff_ne, beq_iff_eq, bne_eq_false_iff_eq, beq_eq_false_iff_ne] at hb367)
            refine gw_seq fun K452 hK452 => ?_
            refine wp_region_lit ?_
            refine gw_ev HF451 (want_none rfl) rfl (by decide) (op_eqi rfl (HF451.ev rfl) (ev_c _ _)) ?_
            intro a453 HF454; clear HF451
            refine gw_ev HF454 (want_none rfl) rfl (by decide) (op_assign rfl (HF454.ev rfl)) ?_
            intro a455 HF456; clear HF454
            refine wpList_nil ?_
            refine gw_nx (hK452 _ _ ?_)
            refine gw_cond HF456 rfl (fun hb457 => ?_) (fun hb457 => ?_)
            · skip
              have HF458 := HF456.subst_ (d := 18) (b := true) rfl hb457
              clear HF456
              (try simp only [Bool.and_eq_true, Bool.or_eq_true, Bool.and_eq_false_iff, Bool.or_eq_false_iff, Bool.not_and, Bool.not_or, Bool.not_not, decide_eq_true_eq, decide_eq_false_iff_not, Bool.not_eq_true', Bool.not_eq_false', Bool.not_eq_true, Bool.not_eq_false, ne_eq, Decidable.not_not, Int.not_lt, Int.not_le, not_true_eq_false, not_false_eq_true, bne_iff_ne, beq_iff_eq, bne_eq_false_iff_eq, beq_eq_false_iff_ne] at hb457)
              refine wp_skip ?_
              refine gw_nx (hK361 _ _ ?_)
              refine gw_cond HF458 rfl (fun hb459 => ?_) (fun hb459 => ?_)
              rotate_left
              · cases hb459
              refine gw_drawB HO7 (by kernel_rfl) (by kernel_rfl) fun w460 HO461 => ?_
              clear HO7
              refine gq_ev HF458 (want_none rfl) rfl (by decide) (fun wq hq => have HO := HO461.after hq; (op_field (gwfld70_1 _ _) rfl (HF458.ev rfl))) ?_
              intro a462 HF463; clear HF458
              refine gq_ev HF463 (want_none rfl) rfl (by decide) (fun wq hq => have HO := HO461.after hq; (op_load1 gwagg3 rfl (HF463.ev rfl) (blk_at (HO.get 0 rfl) rfl))) ?_
              intro a464 HF465; clear HF463
              refine gq_ev HF465 (want_none rfl) rfl (by decide) (fun wq hq => have HO := HO461.after hq; (op_assign rfl (ev_c _ _))) ?_
              intro a466 HF467; clear HF465
              refine gq_ev HF467 (want_none rfl) rfl (by decide) (fun wq hq => have HO := HO461.after hq; (op_assign rfl (HF467.ev rfl))) ?_
              intro a468 HF469; clear HF467
              refine wpQuiet_nil ?_
              intro w470 hq
              have HO471 := HO461.after hq
              clear HO461 hq
              refine gw_blk ?_
              refine gw_nx (hK17 _ _ ?_)
              refine gw_seq fun K472 hK472 => ?_
              refine wp_region_lit ?_
              refine gw_ev HF469 (want_none rfl) rfl (by decide) (op_field (gwfld70_0 _ _) rfl (HF469.ev rfl)) ?_
              intro a473 HF474; clear HF469
              refine gw_ev HF474 (want_none rfl) rfl (by decide) (op_load1 gwagg3 rfl (HF474.ev rfl) (blk_at (HO471.get 0 rfl) rfl)) ?_
              intro a475 HF476; clear HF474
              refine gw_ev HF476 (want_none rfl) rfl (by decide) (op_geq rfl (HF476.ev rfl) (ev_c _ _)) ?_
              intro a477 HF478; clear HF476
              refine gw_ev HF478 (want_none rfl) rfl (by decide) (op_move rfl (HF478.ev rfl)) ?_
              intro a479 HF480; clear HF478
              refine gw_evG HF480 rfl rfl rfl rfl (on_t _) rfl (by decide) (fun h_ => (op_field (gwfld70_0 _ _) rfl (HF480.ev rfl))) ?_
              intro a481 HF482; clear HF480
              refine gw_evG HF482 rfl rfl rfl rfl (on_t _) rfl (by decide) (fun h_ => (op_load1 gwagg3 rfl (ev_gv (HF482.ev rfl) h_) (blk_at (HO471.get 0 rfl) rfl))) ?_
              intro a483 HF484; clear HF482
              refine gw_evG HF484 rfl rfl rfl rfl (on_t _) rfl (by decide) (fun h_ => (op_leq rfl (ev_gv (HF484.ev rfl) h_) (ev_c _ _))) ?_
              intro a485 HF486; clear HF484
              refine gw_ev HF486 (want_none rfl) rfl (by decide) (op_pick_and rfl (HF486.ev rfl) (fun hp_ => (ev_gv (HF486.ev rfl) hp_)) (ev_c _ _)) ?_
              intro a487 HF488; clear HF486
              refine gw_ev HF488 (want_none rfl) rfl (by decide) (op_move rfl (HF488.ev rfl)) ?_
              intro a489 HF490; clear HF488
              refine gw_evG HF490 rfl rfl rfl rfl (on_t _) rfl (by decide) (fun h_ => (op_field (gwfld70_1 _ _) rfl (HF490.ev rfl))) ?_
              intro a491 HF492; clear HF490
              refine gw_evG HF492 rfl rfl rfl rfl (on_t _) rfl (by decide) (fun h_ => (op_load1 gwagg3 rfl (ev_gv (HF492.ev rfl) h_) (blk_at (HO471.get 0 rfl) rfl))) ?_
              intro a493 HF494; clear HF492
              refine gw_evG HF494 rfl rfl rfl rfl (on_t _) rfl (by decide) (fun h_ => (op_move rfl (HF494.ev rfl))) ?_
              intro a495 HF496; clear HF494
              refine gw_evG HF496 rfl rfl rfl rfl (on_t _) rfl (by decide) (fun h_ => (op_geq rfl (ev_gv (HF496.ev rfl) h_) (ev_gv (HF496.ev rfl) h_))) ?_
              intro a497 HF498; clear HF496
              refine gw_ev HF498 (want_none rfl) rfl (by decide) (op_pick_and rfl (HF498.ev rfl) (fun hp_ => (ev_gv (HF498.ev rfl) hp_)) (ev_c _ _)) ?_
              intro a499 HF500; clear HF498
              refine gw_ev HF500 (want_none rfl) rfl (by decide) (op_move rfl (HF500.ev rfl)) ?_
              intro a501 HF502; clear HF500
              refine gw_evG HF502 rfl rfl rfl rfl (on_t _) rfl (by decide) (fun h_ => (op_field (gwfld70_1 _ _) rfl (HF502.ev rfl))) ?_
              intro a503 HF504; clear HF502
              refine gw_evG HF504 rfl rfl rfl rfl (on_t _) rfl (by decide) (fun h_ => (op_load1 gwagg3 rfl (ev_gv (HF504.ev rfl) h_) (blk_at (HO471.get 0 rfl) rfl))) ?_
              intro a505 HF506; clear HF504
              refine gw_evG HF506 rfl rfl rfl rfl (on_t _) rfl (by decide) (fun h_ => (op_move rfl (HF506.ev rfl))) ?_
              intro a507 HF508; clear HF506
              refine gw_evG HF508 rfl rfl rfl rfl (on_t _) rfl (by decide) (fun h_ => (op_leq rfl (ev_gv (HF508.ev rfl) h_) (ev_gv (HF508.ev rfl) h_))) ?_
              intro a509 HF510; clear HF508
              refine gw_ev HF510 (want_none rfl) rfl (by decide) (op_pick_and rfl (HF510.ev rfl) (fun hp_ => (ev_gv (HF510.ev rfl) hp_)) (ev_c _ _)) ?_
              intro a511 HF512; clear HF510
              refine gw_ev HF512 (want_none rfl) rfl (by decide) (op_move rfl (HF512.ev rfl)) ?_
              intro a513 HF514; clear HF512
              refine gw_evG HF514 rfl rfl rfl rfl (on_t _) rfl (by decide) (fun h_ => (op_move rfl (HF514.ev rfl))) ?_
              intro a515 HF516; clear HF514
              refine gw_evG HF516 rfl rfl rfl rfl (on_t _) rfl (by decide) (fun h_ => (op_move rfl (ev_gv (HF516.ev rfl) h_))) ?_
              intro a517 HF518; clear HF516
              refine gw_evG HF518 rfl rfl rfl rfl (on_gf _ _) rfl (by decide) (fun h_ => (op_field (gwfld70_2 _ _) rfl (HF518.ev rfl))) ?_
              intro a519 HF520; clear HF518
              refine gw_evG HF520 rfl rfl rfl rfl (on_gf _ _) rfl (by decide) (fun h_ => (op_load1 gwagg9 rfl (ev_gv (HF520.ev rfl) (andi (and1 h_) (and2 h_))) (blk_at (HO471.get 0 rfl) rfl))) ?_
              intro a521 HF522; clear HF520
              refine gw_evG HF522 rfl rfl rfl rfl (on_gf _ _) rfl (by decide) (fun h_ => (op_eqs rfl (ev_gv (HF522.ev rfl) (andi (and1 h_) (and2 h_))) (ev_c _ _))) ?_
              intro a523 HF524; clear HF522
              refine gw_evG HF524 rfl rfl rfl rfl (on_t _) rfl (by decide) (fun h_ => (op_pick_f rfl (ev_gv (HF524.ev rfl) h_) (ev_gv (HF524.ev rfl) (andi h_ (by rfl))))) ?_
              intro a525 HF526; clear HF524
              refine gw_ev HF526 (want_none rfl) rfl (by decide) (op_pick_and rfl (HF526.ev rfl) (fun hp_ => (ev_gv (HF526.ev rfl) hp_)) (ev_c _ _)) ?_
              intro a527 HF528; clear HF526
              refine gw_ev HF528 (want_none rfl) rfl (by decide) (op_move rfl (HF528.ev rfl)) ?_
              intro a529 HF530; clear HF528
              refine gw_evG HF530 rfl rfl rfl rfl (on_t _) rfl (by decide) (fun h_ => (op_field (gwfld70_3 _ _) rfl (HF530.ev rfl))) ?_
              intro a531 HF532; clear HF530
              refine gw_evG HF532 rfl rfl rfl rfl (on_t _) rfl (by decide) (fun h_ => (op_load1 gwagg2 rfl (ev_gv (HF532.ev rfl) h_) (blk_at (HO471.get 0 rfl) rfl))) ?_
              intro a533 HF534; clear HF532
              refine gw_evG HF534 rfl rfl rfl rfl (on_t _) rfl (by decide) (fun h_ => (op_geq rfl (ev_gv (HF534.ev rfl) h_) (ev_c _ _))) ?_
              intro a535 HF536; clear HF534
              refine gw_ev HF536 (want_none rfl) rfl (by decide) (op_pick_and rfl (HF536.ev rfl) (fun hp_ => (ev_gv (HF536.ev rfl) hp_)) (ev_c _ _)) ?_
              intro a537 HF538; clear HF536
              refine gw_ev HF538 (want_none rfl) rfl (by decide) (op_assign rfl (HF538.ev rfl)) ?_
              intro a539 HF540; clear HF538
              refine wpList_nil ?_
              refine gw_nx (hK472 _ _ ?_)
              refine wp_ret ?_
              refine gw_ret1 HF540 rfl rfl ?_
              exact ⟨by congr 2; unfold rightL noText; rw [Bool.eq_iff_iff]; simp_all <;> (intros; omega), HO471.below⟩
            · skip
              have HF541 := HF456.subst_ (d := 18) (b := false) rfl hb457
              clear HF456
              (try simp only [Bool.and_eq_true, Bool.or_eq_true, Bool.and_eq_false_iff, Bool.or_eq_false_iff, Bool.not_and, Bool.not_or, Bool.not_not, decide_eq_true_eq, decide_eq_false_iff_not, Bool.not_eq_true', Bool.not_eq_false', Bool.not_eq_true, Bool.not_eq_false, ne_eq, Decidable.not_not, Int.not_lt, Int.not_le, not_true_eq_false, not_false_eq_true, bne_iff_ne, beq_iff_eq, bne_eq_false_iff_eq, beq_eq_false_iff_ne] at hb457)
              refine wp_region_lit ?_
              refine gw_ev HF541 (want_none rfl) rfl (by decide) (op_eqi rfl (HF541.ev rfl) (ev_c _ _)) ?_
              intro a542 HF543; clear HF541
              refine gw_ev HF543 (want_none rfl) rfl (by decide) (op_assign rfl (HF543.ev rfl)) ?_
              intro a544 HF545; clear HF543
              refine wpList_nil ?_
              refine gw_nx (hK361 _ _ ?_)
              refine gw_cond HF545 rfl (fun hb546 => ?_) (fun hb546 => ?_)
              · skip
                have HF547 := HF545.subst_ (d := 18) (b := true) rfl hb546
                clear HF545
                (try simp only [Bool.and_eq_true, Bool.or_eq_true, Bool.and_eq_false_iff, Bool.or_eq_false_iff, Bool.not_and, Bool.not_or, Bool.not_not, decide_eq_true_eq, decide_eq_false_iff_not, Bool.not_eq_true', Bool.not_eq_false', Bool.not_eq_true, Bool.not_eq_false, ne_eq, Decidable.not_not, Int.not_lt, Int.not_le, not_true_eq_false, not_false_eq_true, bne_iff_ne, beq_iff_eq, bne_eq_false_iff_eq, beq_eq_false_iff_ne] at hb546)
                refine gw_drawB HO7 (by kernel_rfl) (by kernel_rfl) fun w548 HO549 => ?_
                clear HO7
                refine gq_ev HF547 (want_none rfl) rfl (by decide) (fun wq hq => have HO := HO549.after hq; (op_field (gwfld70_1 _ _) rfl (HF547.ev rfl))) ?_
                intro a550 HF551; clear HF547
                refine gq_ev HF551 (want_none rfl) rfl (by decide) (fun wq hq => have HO := HO549.after hq; (op_load1 gwagg3 rfl (HF551.ev rfl) (blk_at (HO.get 0 rfl) rfl))) ?_
                intro a552 HF553; clear HF551
                refine gq_ev HF553 (want_none rfl) rfl (by decide) (fun wq hq => have HO := HO549.after hq; (op_assign rfl (ev_c _ _))) ?_
                intro a554 HF555; clear HF553
                refine gq_ev HF555 (want_none rfl) rfl (by decide) (fun wq hq => have HO := HO549.after hq; (op_assign rfl (HF555.ev rfl))) ?_
                intro a556 HF557; clear HF555
                refine wpQuiet_nil ?_
                intro w558 hq
                have HO559 := HO549.after hq
                clear HO549 hq
                refine gw_blk ?_
                refine gw_nx (hK17 _ _ ?_)
                refine gw_seq fun K560 hK560 => ?_
                refine wp_region_lit ?_
                refine gw_ev HF557 (want_none rfl) rfl (by decide) (op_field (gwfld70_0 _ _) rfl (HF557.ev rfl)) ?_
                intro a561 HF562; clear HF557
                refine gw_ev HF562 (want_none rfl) rfl (by decide) (op_load1 gwagg3 rfl (HF562.ev rfl) (blk_at (HO559.get 0 rfl) rfl)) ?_
                intro a563 HF564; clear HF562
                refine gw_ev HF564 (want_none rfl) rfl (by decide) (op_geq rfl (HF564.ev rfl) (ev_c _ _)) ?_
                intro a565 HF566; clear HF564
                refine gw_ev HF566 (want_none rfl) rfl (by decide) (op_move rfl (HF566.ev rfl)) ?_
                intro a567 HF568; clear HF566
                refine gw_evG HF568 rfl rfl rfl rfl (on_t _) rfl (by decide) (fun h_ => (op_field (gwfld70_0 _ _) rfl (HF568.ev rfl))) ?_
                intro a569 HF570; clear HF568
                refine gw_evG HF570 rfl rfl rfl rfl (on_t _) rfl (by decide) (fun h_ => (op_load1 gwagg3 rfl (ev_gv (HF570.ev rfl) h_) (blk_at (HO559.get 0 rfl) rfl))) ?_
                intro a571 HF572; clear HF570
                refine gw_evG HF572 rfl rfl rfl rfl (on_t _) rfl (by decide) (fun h_ => (op_leq rfl (ev_gv (HF572.ev rfl) h_) (ev_c _ _))) ?_
                intro a573 HF574; clear HF572
                refine gw_ev HF574 (want_none rfl) rfl (by decide) (op_pick_and rfl (HF574.ev rfl) (fun hp_ => (ev_gv (HF574.ev rfl) hp_)) (ev_c _ _)) ?_
                intro a575 HF576; clear HF574
                refine gw_ev HF576 (want_none rfl) rfl (by decide) (op_move rfl (HF576.ev rfl)) ?_
                intro a577 HF578; clear HF576
                refine gw_evG HF578 rfl rfl rfl rfl (on_t _) rfl (by decide) (fun h_ => (op_field (gwfld70_1 _ _) rfl (HF578.ev rfl))) ?_
                intro a579 HF580; clear HF578
                refine gw_evG HF580 rfl rfl rfl rfl (on_t _) rfl (by decide) (fun h_ => (op_load1 gwagg3 rfl (ev_gv (HF580.ev rfl) h_) (blk_at (HO559.get 0 rfl) rfl))) ?_
                intro a581 HF582; clear HF580
                refine gw_evG HF582 rfl rfl rfl rfl (on_t _) rfl (by decide) (fun h_ => (op_move rfl (HF582.ev rfl))) ?_
                intro a583 HF584; clear HF582
                refine gw_evG HF584 rfl rfl rfl rfl (on_t _) rfl (by decide) (fun h_ => (op_geq rfl (ev_gv (HF584.ev rfl) h_) (ev_gv (HF584.ev rfl) h_))) ?_
                intro a585 HF586; clear HF584
                refine gw_ev HF586 (want_none rfl) rfl (by decide) (op_pick_and rfl (HF586.ev rfl) (fun hp_ => (ev_gv (HF586.ev rfl) hp_)) (ev_c _ _)) ?_
                intro a587 HF588; clear HF586
                refine gw_ev HF588 (want_none rfl) rfl (by decide) (op_move rfl (HF588.ev rfl)) ?_
                intro a589 HF590; clear HF588
                refine gw_evG HF590 rfl rfl rfl rfl (on_t _) rfl (by decide) (fun h_ => (op_field (gwfld70_1 _ _) rfl (HF590.ev rfl))) ?_
                intro a591 HF592; clear HF590
                refine gw_evG HF592 rfl rfl rfl rfl (on_t _) rfl (by decide) (fun h_ => (op_load1 gwagg3 rfl (ev_gv (HF592.ev rfl) h_) (blk_at (HO559.get 0 rfl) rfl))) ?_
                intro a593 HF594; clear HF592
                refine gw_evG HF594 rfl rfl rfl rfl (on_t _) rfl (by decide) (fun h_ => (op_move rfl (HF594.ev rfl))) ?_
                intro a595 HF596; clear HF594
                refine gw_evG HF596 rfl rfl rfl rfl (on_t _) rfl (by decide) (fun h_ => (op_leq rfl (ev_gv (HF596.ev rfl) h_) (ev_gv (HF596.ev rfl) h_))) ?_
                intro a597 HF598; clear HF596
                refine gw_ev HF598 (want_none rfl) rfl (by decide) (op_pick_and rfl (HF598.ev rfl) (fun hp_ => (ev_gv (HF598.ev rfl) hp_)) (ev_c _ _)) ?_
                intro a599 HF600; clear HF598
                refine gw_ev HF600 (want_none rfl) rfl (by decide) (op_move rfl (HF600.ev rfl)) ?_
                intro a601 HF602; clear HF600
                refine gw_evG HF602 rfl rfl rfl rfl (on_t _) rfl (by decide) (fun h_ => (op_move rfl (HF602.ev rfl))) ?_
                intro a603 HF604; clear HF602
                refine gw_evG HF604 rfl rfl rfl rfl (on_t _) rfl (by decide) (fun h_ => (op_move rfl (ev_gv (HF604.ev rfl) h_))) ?_
                intro a605 HF606; clear HF604
                refine gw_evG HF606 rfl rfl rfl rfl (on_gf _ _) rfl (by decide) (fun h_ => (op_field (gwfld70_2 _ _) rfl (HF606.ev rfl))) ?_
                intro a607 HF608; clear HF606
                refine gw_evG HF608 rfl rfl rfl rfl (on_gf _ _) rfl (by decide) (fun h_ => (op_load1 gwagg9 rfl (ev_gv (HF608.ev rfl) (andi (and1 h_) (and2 h_))) (blk_at (HO559.get 0 rfl) rfl))) ?_
                intro a609 HF610; clear HF608
                refine gw_evG HF610 rfl rfl rfl rfl (on_gf _ _) rfl (by decide) (fun h_ => (op_eqs rfl (ev_gv (HF610.ev rfl) (andi (and1 h_) (and2 h_))) (ev_c _ _))) ?_
                intro a611 HF612; clear HF610
                refine gw_evG HF612 rfl rfl rfl rfl (on_t _) rfl (by decide) (fun h_ => (op_pick_f rfl (ev_gv (HF612.ev rfl) h_) (ev_gv (HF612.ev rfl) (andi h_ (by rfl))))) ?_
                intro a613 HF614; clear HF612
                refine gw_ev HF614 (want_none rfl) rfl (by decide) (op_pick_and rfl (HF614.ev rfl) (fun hp_ => (ev_gv (HF614.ev rfl) hp_)) (ev_c _ _)) ?_
                intro a615 HF616; clear HF614
                refine gw_ev HF616 (want_none rfl) rfl (by decide) (op_move rfl (HF616.ev rfl)) ?_
                intro a617 HF618; clear HF616
                refine gw_evG HF618 rfl rfl rfl rfl (on_t _) rfl (by decide) (fun h_ => (op_field (gwfld70_3 _ _) rfl (HF618.ev rfl))) ?_
                intro a619 HF620; clear HF618
                refine gw_evG HF620 rfl rfl rfl rfl (on_t _) rfl (by decide) (fun h_ => (op_load1 gwagg2 rfl (ev_gv (HF620.ev rfl) h_) (blk_at (HO559.get 0 rfl) rfl))) ?_
                intro a621 HF622; clear HF620
                refine gw_evG HF622 rfl rfl rfl rfl (on_t _) rfl (by decide) (fun h_ => (op_geq rfl (ev_gv (HF622.ev rfl) h_) (ev_c _ _))) ?_
                intro a623 HF624; clear HF622
                refine gw_ev HF624 (want_none rfl) rfl (by decide) (op_pick_and rfl (HF624.ev rfl) (fun hp_ => (ev_gv (HF624.ev rfl) hp_)) (ev_c _ _)) ?_
                intro a625 HF626; clear HF624
                refine gw_ev HF626 (want_none rfl) rfl (by decide) (op_assign rfl (HF626.ev rfl)) ?_
                intro a627 HF628; clear HF626
                refine wpList_nil ?_
                refine gw_nx (hK560 _ _ ?_)
                refine wp_ret ?_
                refine gw_ret1 HF628 rfl rfl ?_
                exact ⟨by congr 2; unfold rightL noText; rw [Bool.eq_iff_iff]; simp_all <;> (intros; omega), HO559.below⟩
              · skip
                have HF629 := HF545.subst_ (d := 18) (b := false) rfl hb546
                clear HF545
                (try simp only [Bool.and_eq_true, Bool.or_eq_true, Bool.and_eq_false_iff, Bool.or_eq_false_iff, Bool.not_and, Bool.not_or, Bool.not_not, decide_eq_true_eq, decide_eq_false_iff_not, Bool.not_eq_true', Bool.not_eq_false', Bool.not_eq_true, Bool.not_eq_false, ne_eq, Decidable.not_not, Int.not_lt, Int.not_le, not_true_eq_false, not_false_eq_true, bne_iff_ne, beq_iff_eq, bne_eq_false_iff_eq, beq_eq_false_iff_ne] at hb546)
                refine gw_seq fun K630 hK630 => ?_
                refine wp_region_lit ?_
                refine gw_ev HF629 (want_none rfl) rfl (by decide) (op_eqi rfl (HF629.ev rfl) (ev_c _ _)) ?_
                intro a631 HF632; clear HF629
                refine gw_ev HF632 (want_none rfl) rfl (by decide) (op_assign rfl (HF632.ev rfl)) ?_
                intro a633 HF634; clear HF632
                refine wpList_nil ?_
                refine gw_nx (hK630 _ _ ?_)
                refine gw_cond HF634 rfl (fun hb635 => ?_) (fun hb635 => ?_)
                · skip
                  have HF636 := HF634.subst_ (d := 24) (b := true) rfl hb635
                  clear HF634
                  (try simp only [Bool.and_eq_true, Bool.or_eq_true, Bool.and_eq_false_iff, Bool.or_eq_false_iff, Bool.not_and, Bool.not_or, Bool.not_not, decide_eq_true_eq, decide_eq_false_iff_not, Bool.not_eq_true', Bool.not_eq_false', Bool.not_eq_true, Bool.not_eq_false, ne_eq, Decidable.not_not, Int.not_lt, Int.not_le, not_true_eq_false, not_false_eq_true, bne_iff_ne, beq_iff_eq, bne_eq_false_iff_eq, beq_eq_false_iff_ne] at hb635)
                  refine wp_region_lit ?_
                  refine gw_ev HF636 (want_none rfl) rfl (by decide) (op_assign rfl (ev_c _ _)) ?_
                  intro a637 HF638; clear HF636
                  refine wpList_nil ?_
                  refine gw_blk ?_
                  refine gw_nx (hK17 _ _ ?_)
                  refine gw_seq fun K639 hK639 => ?_
                  refine wp_region_lit ?_
                  refine gw_ev HF638 (want_none rfl) rfl (by decide) (op_field (gwfld70_0 _ _) rfl (HF638.ev rfl)) ?_
                  intro a640 HF641; clear HF638
                  refine gw_ev HF641 (want_none rfl) rfl (by decide) (op_load1 gwagg3 rfl (HF641.ev rfl) (blk_at (HO7.get 0 rfl) rfl)) ?_
                  intro a642 HF643; clear HF641
                  refine gw_ev HF643 (want_none rfl) rfl (by decide) (op_geq rfl (HF643.ev rfl) (ev_c _ _)) ?_
                  intro a644 HF645; clear HF643
                  refine gw_ev HF645 (want_none rfl) rfl (by decide) (op_move rfl (HF645.ev rfl)) ?_
                  intro a646 HF647; clear HF645
                  refine gw_evG HF647 rfl rfl rfl rfl (on_t _) rfl (by decide) (fun h_ => (op_field (gwfld70_0 _ _) rfl (HF647.ev rfl))) ?_
                  intro a648 HF649; clear HF647
                  refine gw_evG HF649 rfl rfl rfl rfl (on_t _) rfl (by decide) (fun h_ => (op_load1 gwagg3 rfl (ev_gv (HF649.ev rfl) h_) (blk_at (HO7.get 0 rfl) rfl))) ?_
                  intro a650 HF651; clear HF649
                  refine gw_evG HF651 rfl rfl rfl rfl (on_t _) rfl (by decide) (fun h_ => (op_leq rfl (ev_gv (HF651.ev rfl) h_) (ev_c _ _))) ?_
                  intro a652 HF653; clear HF651
                  refine gw_ev HF653 (want_none rfl) rfl (by decide) (op_pick_and rfl (HF653.ev rfl) (fun hp_ => (ev_gv (HF653.ev rfl) hp_)) (ev_c _ _)) ?_
                  intro a654 HF655; clear HF653
                  refine gw_ev HF655 (want_none rfl) rfl (by decide) (op_move rfl (HF655.ev rfl)) ?_
                  intro a656 HF657; clear HF655
                  refine gw_evG HF657 rfl rfl rfl rfl (on_t _) rfl (by decide) (fun h_ => (op_field (gwfld70_1 _ _) rfl (HF657.ev rfl))) ?_
                  intro a658 HF659; clear HF657
                  refine gw_evG HF659 rfl rfl rfl rfl (on_t _) rfl (by decide) (fun h_ => (op_load1 gwagg3 rfl (ev_gv (HF659.ev rfl) h_) (blk_at (HO7.get 0 rfl) rfl))) ?_
                  intro a660 HF661; clear HF659
                  refine gw_evG HF661 rfl rfl rfl rfl (on_t _) rfl (by decide) (fun h_ => (op_move rfl (HF661.ev rfl))) ?_
                  intro a662 HF663; clear HF661
                  refine gw_evG HF663 rfl rfl rfl rfl (on_t _) rfl (by decide) (fun h_ => (op_geq rfl (ev_gv (HF663.ev rfl) h_) (ev_gv (HF663.ev rfl) h_))) ?_
                  intro a664 HF665; clear HF663
                  refine gw_ev HF665 (want_none rfl) rfl (by decide) (op_pick_and rfl (HF665.ev rfl) (fun hp_ => (ev_gv (HF665.ev rfl) hp_)) (ev_c _ _)) ?_
                  intro a666 HF667; clear HF665
                  refine gw_ev HF667 (want_none rfl) rfl (by decide) (op_move rfl (HF667.ev rfl)) ?_
                  intro a668 HF669; clear HF667
                  refine gw_evG HF669 rfl rfl rfl rfl (on_t _) rfl (by decide) (fun h_ => (op_field (gwfld70_1 _ _) rfl (HF669.ev rfl))) ?_
                  intro a670 HF671; clear HF669
                  refine gw_evG HF671 rfl rfl rfl rfl (on_t _) rfl (by decide) (fun h_ => (op_load1 gwagg3 rfl (ev_gv (HF671.ev rfl) h_) (blk_at (HO7.get 0 rfl) rfl))) ?_
                  intro a672 HF673; clear HF671
                  refine gw_evG HF673 rfl rfl rfl rfl (on_t _) rfl (by decide) (fun h_ => (op_move rfl (HF673.ev rfl))) ?_
                  intro a674 HF675; clear HF673
                  refine gw_evG HF675 rfl rfl rfl rfl (on_t _) rfl (by decide) (fun h_ => (op_leq rfl (ev_gv (HF675.ev rfl) h_) (ev_gv (HF675.ev rfl) h_))) ?_
                  intro a676 HF677; clear HF675
                  refine gw_ev HF677 (want_none rfl) rfl (by decide) (op_pick_and rfl (HF677.ev rfl) (fun hp_ => (ev_gv (HF677.ev rfl) hp_)) (ev_c _ _)) ?_
                  intro a678 HF679; clear HF677
                  refine gw_ev HF679 (want_none rfl) rfl (by decide) (op_move rfl (HF679.ev rfl)) ?_
                  intro a680 HF681; clear HF679
                  refine gw_evG HF681 rfl rfl rfl rfl (on_t _) rfl (by decide) (fun h_ => (op_move rfl (HF681.ev rfl))) ?_
                  intro a682 HF683; clear HF681
                  refine gw_evG HF683 rfl rfl rfl rfl (on_t _) rfl (by decide) (fun h_ => (op_move rfl (ev_gv (HF683.ev rfl) h_))) ?_
                  intro a684 HF685; clear HF683
                  refine gw_evG HF685 rfl rfl rfl rfl (on_gf _ _) rfl (by decide) (fun h_ => (op_field (gwfld70_2 _ _) rfl (HF685.ev rfl))) ?_
                  intro a686 HF687; clear HF685
                  refine gw_evG HF687 rfl rfl rfl rfl (on_gf _ _) rfl (by decide) (fun h_ => (op_load1 gwagg9 rfl (ev_gv (HF687.ev rfl) (andi (and1 h_) (and2 h_))) (blk_at (HO7.get 0 rfl) rfl))) ?_
                  intro a688 HF689; clear HF687
                  refine gw_evG HF689 rfl rfl rfl rfl (on_gf _ _) rfl (by decide) (fun h_ => (op_eqs rfl (ev_gv (HF689.ev rfl) (andi (and1 h_) (and2 h_))) (ev_c _ _))) ?_
                  intro a690 HF691; clear HF689
                  refine gw_evG HF691 rfl rfl rfl rfl (on_t _) rfl (by decide) (fun h_ => (op_pick_t rfl (ev_gv (HF691.ev rfl) h_) (ev_c _ _))) ?_
                  intro a692 HF693; clear HF691
                  refine gw_ev HF693 (want_none rfl) rfl (by decide) (op_pick_and rfl (HF693.ev rfl) (fun hp_ => (ev_gv (HF693.ev rfl) hp_)) (ev_c _ _)) ?_
                  intro a694 HF695; clear HF693
                  refine gw_ev HF695 (want_none rfl) rfl (by decide) (op_move rfl (HF695.ev rfl)) ?_
                  intro a696 HF697; clear HF695
                  refine gw_evG HF697 rfl rfl rfl rfl (on_t _) rfl (by decide) (fun h_ => (op_field (gwfld70_3 _ _) rfl (HF697.ev rfl))) ?_
                  intro a698 HF699; clear HF697
                  refine gw_evG HF699 rfl rfl rfl rfl (on_t _) rfl (by decide) (fun h_ => (op_load1 gwagg2 rfl (ev_gv (HF699.ev rfl) h_) (blk_at (HO7.get 0 rfl) rfl))) ?_
                  intro a700 HF701; clear HF699
                  refine gw_evG HF701 rfl rfl rfl rfl (on_t _) rfl (by decide) (fun h_ => (op_geq rfl (ev_gv (HF701.ev rfl) h_) (ev_c _ _))) ?_
                  intro a702 HF703; clear HF701
                  refine gw_ev HF703 (want_none rfl) rfl (by decide) (op_pick_and rfl (HF703.ev rfl) (fun hp_ => (ev_gv (HF703.ev rfl) hp_)) (ev_c _ _)) ?_
                  intro a704 HF705; clear HF703
                  refine gw_ev HF705 (want_none rfl) rfl (by decide) (op_assign rfl (HF705.ev rfl)) ?_
                  intro a706 HF707; clear HF705
                  refine wpList_nil ?_
                  refine gw_nx (hK639 _ _ ?_)
                  refine wp_ret ?_
                  refine gw_ret1 HF707 rfl rfl ?_
                  exact ⟨by congr 2; unfold rightL noText; rw [Bool.eq_iff_iff]; simp_all <;> (intros; omega), HO7.below⟩
                · skip
                  have HF708 := HF634.subst_ (d := 24) (b := false) rfl hb635
                  clear HF634
                  (try simp only [Bool.and_eq_true, Bool.or_eq_true, Bool.and_eq_false_iff, Bool.or_eq_false_iff, Bool.not_and, Bool.not_or, Bool.not_not, decide_eq_true_eq, decide_eq_false_iff_not, Bool.not_eq_true', Bool.not_eq_false', Bool.not_eq_true, Bool.not_eq_false, ne_eq, Decidable.not_not, Int.not_lt, Int.not_le, not_true_eq_false, not_false_eq_true, bne_iff_ne, beq_iff_eq, bne_eq_false_iff_eq, beq_eq_false_iff_ne] at hb635)
                  refine wp_skip ?_
                  refine gw_blk ?_
                  refine gw_nx (hK17 _ _ ?_)
                  refine gw_seq fun K709 hK709 => ?_
                  refine wp_region_lit ?_
                  refine gw_ev HF708 (want_none rfl) rfl (by decide) (op_field (gwfld70_0 _ _) rfl (HF708.ev rfl)) ?_
                  intro a710 HF711; clear HF708
                  refine gw_ev HF711 (want_none rfl) rfl (by decide) (op_load1 gwagg3 rfl (HF711.ev rfl) (blk_at (HO7.get 0 rfl) rfl)) ?_
                  intro a712 HF713; clear HF711
                  refine gw_ev HF713 (want_none rfl) rfl (by decide) (op_geq rfl (HF713.ev rfl) (ev_c _ _)) ?_
                  intro a714 HF715; clear HF713
                  refine gw_ev HF715 (want_none rfl) rfl (by decide) (op_move rfl (HF715.ev rfl)) ?_
                  intro a716 HF717; clear HF715
                  refine gw_evG HF717 rfl rfl rfl rfl (on_t _) rfl (by decide) (fun h_ => (op_field (gwfld70_0 _ _) rfl (HF717.ev rfl))) ?_
                  intro a718 HF719; clear HF717
                  refine gw_evG HF719 rfl rfl rfl rfl (on_t _) rfl (by decide) (fun h_ => (op_load1 gwagg3 rfl (ev_gv (HF719.ev rfl) h_) (blk_at (HO7.get 0 rfl) rfl))) ?_
                  intro a720 HF721; clear HF719
                  refine gw_evG HF721 rfl rfl rfl rfl (on_t _) rfl (by decide) (fun h_ => (op_leq rfl (ev_gv (HF721.ev rfl) h_) (ev_c _ _))) ?_
                  intro a722 HF723; clear HF721
                  refine gw_ev HF723 (want_none rfl) rfl (by decide) (op_pick_and rfl (HF723.ev rfl) (fun hp_ => (ev_gv (HF723.ev rfl) hp_)) (ev_c _ _)) ?_
                  intro a724 HF725; clear HF723
                  refine gw_ev HF725 (want_none rfl) rfl (by decide) (op_move rfl (HF725.ev rfl)) ?_
                  intro a726 HF727; clear HF725
                  refine gw_evG HF727 rfl rfl rfl rfl (on_t _) rfl (by decide) (fun h_ => (op_field (gwfld70_1 _ _) rfl (HF727.ev rfl))) ?_
                  intro a728 HF729; clear HF727
                  refine gw_evG HF729 rfl rfl rfl rfl (on_t _) rfl (by decide) (fun h_ => (op_load1 gwagg3 rfl (ev_gv (HF729.ev rfl) h_) (blk_at (HO7.get 0 rfl) rfl))) ?_
                  intro a730 HF731; clear HF729
                  refine gw_evG HF731 rfl rfl rfl rfl (on_t _) rfl (by decide) (fun h_ => (op_move rfl (HF731.ev rfl))) ?_
                  intro a732 HF733; clear HF731
                  refine gw_evG HF733 rfl rfl rfl rfl (on_t _) rfl (by decide) (fun h_ => (op_geq rfl (ev_gv (HF733.ev rfl) h_) (ev_gv (HF733.ev rfl) h_))) ?_
                  intro a734 HF735; clear HF733
                  refine gw_ev HF735 (want_none rfl) rfl (by decide) (op_pick_and rfl (HF735.ev rfl) (fun hp_ => (ev_gv (HF735.ev rfl) hp_)) (ev_c _ _)) ?_
                  intro a736 HF737; clear HF735
                  refine gw_ev HF737 (want_none rfl) rfl (by decide) (op_move rfl (HF737.ev rfl)) ?_
                  intro a738 HF739; clear HF737
                  refine gw_evG HF739 rfl rfl rfl rfl (on_t _) rfl (by decide) (fun h_ => (op_field (gwfld70_1 _ _) rfl (HF739.ev rfl))) ?_
                  intro a740 HF741; clear HF739
                  refine gw_evG HF741 rfl rfl rfl rfl (on_t _) rfl (by decide) (fun h_ => (op_load1 gwagg3 rfl (ev_gv (HF741.ev rfl) h_) (blk_at (HO7.get 0 rfl) rfl))) ?_
                  intro a742 HF743; clear HF741
                  refine gw_evG HF743 rfl rfl rfl rfl (on_t _) rfl (by decide) (fun h_ => (op_move rfl (HF743.ev rfl))) ?_
                  intro a744 HF745; clear HF743
                  refine gw_evG HF745 rfl rfl rfl rfl (on_t _) rfl (by decide) (fun h_ => (op_leq rfl (ev_gv (HF745.ev rfl) h_) (ev_gv (HF745.ev rfl) h_))) ?_
                  intro a746 HF747; clear HF745
                  refine gw_ev HF747 (want_none rfl) rfl (by decide) (op_pick_and rfl (HF747.ev rfl) (fun hp_ => (ev_gv (HF747.ev rfl) hp_)) (ev_c _ _)) ?_
                  intro a748 HF749; clear HF747
                  refine gw_ev HF749 (want_none rfl) rfl (by decide) (op_move rfl (HF749.ev rfl)) ?_
                  intro a750 HF751; clear HF749
                  refine gw_evG HF751 rfl rfl rfl rfl (on_t _) rfl (by decide) (fun h_ => (op_move rfl (HF751.ev rfl))) ?_
                  intro a752 HF753; clear HF751
                  refine gw_evG HF753 rfl rfl rfl rfl (on_t _) rfl (by decide) (fun h_ => (op_move rfl (ev_gv (HF753.ev rfl) h_))) ?_
                  intro a754 HF755; clear HF753
                  refine gw_evG HF755 rfl rfl rfl rfl (on_gf _ _) rfl (by decide) (fun h_ => (op_field (gwfld70_2 _ _) rfl (HF755.ev rfl))) ?_
                  intro a756 HF757; clear HF755
                  refine gw_evG HF757 rfl rfl rfl rfl (on_gf _ _) rfl (by decide) (fun h_ => (op_load1 gwagg9 rfl (ev_gv (HF757.ev rfl) (andi (and1 h_) (and2 h_))) (blk_at (HO7.get 0 rfl) rfl))) ?_
                  intro a758 HF759; clear HF757
                  refine gw_evG HF759 rfl rfl rfl rfl (on_gf _ _) rfl (by decide) (fun h_ => (op_eqs rfl (ev_gv (HF759.ev rfl) (andi (and1 h_) (and2 h_))) (ev_c _ _))) ?_
                  intro a760 HF761; clear HF759
                  refine gw_evG HF761 rfl rfl rfl rfl (on_t _) rfl (by decide) (fun h_ => (op_pick_f rfl (ev_gv (HF761.ev rfl) h_) (ev_gv (HF761.ev rfl) (andi h_ (by rfl))))) ?_
                  intro a762 HF763; clear HF761
                  refine gw_ev HF763 (want_none rfl) rfl (by decide) (op_pick_and rfl (HF763.ev rfl) (fun hp_ => (ev_gv (HF763.ev rfl) hp_)) (ev_c _ _)) ?_
                  intro a764 HF765; clear HF763
                  refine gw_ev HF765 (want_none rfl) rfl (by decide) (op_move rfl (HF765.ev rfl)) ?_
                  intro a766 HF767; clear HF765
                  refine gw_evG HF767 rfl rfl rfl rfl (on_t _) rfl (by decide) (fun h_ => (op_field (gwfld70_3 _ _) rfl (HF767.ev rfl))) ?_
                  intro a768 HF769; clear HF767
                  refine gw_evG HF769 rfl rfl rfl rfl (on_t _) rfl (by decide) (fun h_ => (op_load1 gwagg2 rfl (ev_gv (HF769.ev rfl) h_) (blk_at (HO7.get 0 rfl) rfl))) ?_
                  intro a770 HF771; clear HF769
                  refine gw_evG HF771 rfl rfl rfl rfl (on_t _) rfl (by decide) (fun h_ => (op_geq rfl (ev_gv (HF771.ev rfl) h_) (ev_c _ _))) ?_
                  intro a772 HF773; clear HF771
                  refine gw_ev HF773 (want_none rfl) rfl (by decide) (op_pick_and rfl (HF773.ev rfl) (fun hp_ => (ev_gv (HF773.ev rfl) hp_)) (ev_c _ _)) ?_
                  intro a774 HF775; clear HF773
                  refine gw_ev HF775 (want_none rfl) rfl (by decide) (op_assign rfl (HF775.ev rfl)) ?_
                  intro a776 HF777; clear HF775
                  refine wpList_nil ?_
                  refine gw_nx (hK709 _ _ ?_)
                  refine wp_ret ?_
                  refine gw_ret1 HF777 rfl rfl ?_
                  exact ⟨by congr 2; unfold rightL noText; rw [Bool.eq_iff_iff]; simp_all <;> (intros; omega), HO7.below⟩
end GRightE_
end Go.Proofs.Ytmlemnfleicnfaa.PA
