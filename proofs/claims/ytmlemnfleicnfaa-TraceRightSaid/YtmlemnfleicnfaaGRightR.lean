/- The document's Right. Printed by a program of this session; Lean checks it. -/
import Derived.Test.YtmlemnfleicnfaaGDecides
namespace Go.Proofs.Ytmlemnfleicnfaa.PA
open Go.RowKit Go.Proofs.YtmlemnfleicnfaaW.PrintWords Go.Proofs.YtmlemnfleicnfaaW.PrintLast Go.Proofs.YtmlemnfleicnfaaW.PrintMore
set_option linter.unusedVariables false
set_option linter.unusedSimpArgs false
namespace GRightR_
theorem gwagg2 : ∀ w, (isAgg 2).run Try.prog w = .ok false w := fun _ => by kernel_rfl
theorem gwagg3 : ∀ w, (isAgg 3).run Try.prog w = .ok false w := fun _ => by kernel_rfl
theorem gwagg70 : ∀ w, (isAgg 70).run Try.prog w = .ok true w := fun _ => by kernel_rfl
theorem gwagg9 : ∀ w, (isAgg 9).run Try.prog w = .ok false w := fun _ => by kernel_rfl
theorem gwfld70_0 (g off : Nat) : ∀ w, (Instr.fieldAt 70 (.pointer (some ⟨g, off, none⟩)) 0).run Try.prog w = .ok (.pointer (some ⟨g, off + 0, none⟩)) w := fun _ => by kernel_rfl
theorem gwfld70_1 (g off : Nat) : ∀ w, (Instr.fieldAt 70 (.pointer (some ⟨g, off, none⟩)) 1).run Try.prog w = .ok (.pointer (some ⟨g, off + 1, none⟩)) w := fun _ => by kernel_rfl
theorem gwfld70_2 (g off : Nat) : ∀ w, (Instr.fieldAt 70 (.pointer (some ⟨g, off, none⟩)) 2).run Try.prog w = .ok (.pointer (some ⟨g, off + 2, none⟩)) w := fun _ => by kernel_rfl
theorem gwfld70_3 (g off : Nat) : ∀ w, (Instr.fieldAt 70 (.pointer (some ⟨g, off, none⟩)) 3).run Try.prog w = .ok (.pointer (some ⟨g, off + 3, none⟩)) w := fun _ => by kernel_rfl
theorem gwflda70_3 (ad : Addr) : ∀ w, (Instr.fieldAt 70 (.pointer (some ad)) 3).run Try.prog w = .ok (.pointer (some (ad.add 3))) w := fun _ => by kernel_rfl
theorem gwsiz70 : ∀ w, (sizeOf 70).run Try.prog w = .ok 4 w := fun _ => by kernel_rfl
theorem gwzer70 : ∀ w, (zeroValue 70).run Try.prog w = .ok (.agg #[.int .i64 0, .int .i64 0, .string (⟨#[]⟩ : ByteArray), .int .i64 0]) w := fun _ => by kernel_rfl
set_option maxHeartbeats 4000000 in
set_option maxRecDepth 100000 in
theorem rightr_calls (A0 : Option Addr) (c0 : Nat) (es : List S70) (w : World) (hr0 : Kd.C k70 w A0 es.length es) (hc0 : es.length ≤ c0) (hl : es.length ≤ 9223372036854775807) :
    Calls Try.prog 54 #[.slice A0 es.length c0] w fun e w' => e = .returned (.bool (rightAll es)) ∧ Below w.heap.size w w' := by
  refine gw_start (N := 132) (vs := [.slice A0 es.length c0]) Try.func54 rfl rfl (by simp) fun a HF HO => ?_
  replace HO : Own w w [] := HO
  refine gw_seq fun K1 hK1 => ?_
  refine wp_region_lit ?_
  refine gw_ev HF (want_none rfl) rfl (by decide) (op_assign rfl (ev_c _ _)) ?_
  intro a2 HF3; clear HF
  refine wpList_nil ?_
  refine gw_nx (hK1 _ _ ?_)
  refine gw_seq fun K4 hK4 => ?_
  refine gw_seq fun K5 hK5 => ?_
  refine wp_region_lit ?_
  refine gw_ev HF3 (want_none rfl) rfl (by decide) (op_assign rfl (ev_c _ _)) ?_
  intro a6 HF7; clear HF3
  refine wpList_nil ?_
  refine gw_nx (hK5 _ _ ?_)
  refine wp_block ?_
  refine gw_loop (fun m_ a_ w_ => ∃ (i : Int), Fr 132 a_ [(3, .int .i64 i), (0, .slice A0 es.length c0)] ∧ Own w w_ [] ∧ (0 ≤ i ∧ i ≤ es.length) ∧ (∀ j : Nat, j < i.toNat → okAt es j) ∧ m_ = (es.length - i.toNat)) ((es.length - (0 : Int).toNat)) ?_ ?_
  · refine ⟨0, (HF7.pick (t := 3) rfl (HF7.pick (t := 0) rfl HF7.nil)), HO.sel [] (by decide), ?_, ?_, rfl⟩
    · omega
    · intro j hj; simp at hj
  · rintro m9 a10 w11 ⟨i, HF12, HO13, hi, hall, hm14⟩
    refine gw_seq fun K15 hK15 => ?_
    refine gw_seq fun K16 hK16 => ?_
    refine wp_region_lit ?_
    refine gw_ev HF12 (want_none rfl) rfl (by decide) (op_move rfl (HF12.ev rfl)) ?_
    intro a17 HF18; clear HF12
    refine gw_ev HF18 (want_none rfl) rfl (by decide) (op_move rfl (HF18.ev rfl)) ?_
    intro a19 HF20; clear HF18
    refine gw_ev HF20 (want_none rfl) rfl (by decide) (op_len Try.underlying66 rfl (HF20.ev rfl)) ?_
    intro a21 HF22; clear HF20
    refine gw_ev HF22 (want_none rfl) rfl (by decide) (op_lss rfl (HF22.ev rfl) (HF22.ev rfl)) ?_
    intro a23 HF24; clear HF22
    refine wpList_nil ?_
    refine gw_nx (hK16 _ _ ?_)
    refine gw_cond HF24 rfl (fun hb25 => ?_) (fun hb25 => ?_)
    · skip
      have HF26 := HF24.subst_ (d := 11) (b := true) rfl hb25
      clear HF24
      (try simp only [Bool.and_eq_true, Bool.or_eq_true, Bool.and_eq_false_iff, Bool.or_eq_false_iff, Bool.not_and, Bool.not_or, Bool.not_not, decide_eq_true_eq, decide_eq_false_iff_not, Bool.not_eq_true', Bool.not_eq_false', Bool.not_eq_true, Bool.not_eq_false, ne_eq, Decidable.not_not, Int.not_lt, Int.not_le, not_true_eq_false, not_false_eq_true, bne_iff_ne, beq_iff_eq, bne_eq_false_iff_eq, beq_eq_false_iff_ne] at hb25)
      refine wp_skip ?_
      refine gw_nx (hK15 _ _ ?_)
      refine gw_seq fun K27 hK27 => ?_
      refine wp_block ?_
      refine gw_seq fun K28 hK28 => ?_
      refine wp_region_lit ?_
      refine gw_ev HF26 (want_none rfl) rfl (by decide) (op_move rfl (HF26.ev rfl)) ?_
      intro a29 HF30; clear HF26
      refine gw_ev HF30 (want_none rfl) rfl (by decide) (op_move rfl (HF30.ev rfl)) ?_
      intro a31 HF32; clear HF30
      obtain ⟨ad33, cs36, hA34, hl37, hK38, hc35⟩ := Kd.C_get hr0 z70 i (by omega) (by omega)
      obtain rfl := k70_open hK38
      clear hl37
      refine gw_ev HF32 (want_none rfl) rfl (by decide) (op_index Try.underlying66 gwsiz70 rfl (HF32.ev rfl) (HF32.ev rfl) hA34 (⟨by omega, by omega⟩)) ?_
      intro a39 HF40; clear HF32
      refine gw_ev HF40 (want_none rfl) rfl (by decide) (op_loadc gwagg70 gwsiz70 rfl (HF40.ev rfl) rfl (cells0 HO13 hc35)) ?_
      intro a41 HF42; clear HF40
      refine gw_new HF42 HO13 (want_none rfl) rfl (by decide) (op_alloc gwzer70 rfl) ?_
      intro g43 a44 w45 HF46 HO47; clear HF42 HO13
      have HO48 : Own w w45 [Chunk.blk g43 (.cells #[.int .i64 0, .int .i64 0, .string (⟨#[]⟩ : ByteArray), .int .i64 0] 70 (0, 0))] := HO47
      clear HO47
      refine gw_setn 0 HF46 HO48 rfl (want_none rfl) rfl (op_storen gwsiz70 rfl (HF46.ev rfl) (HF46.ev rfl) (HO48.get 0 rfl) rfl (by simp) (by simp [Value.oneCell'])) ?_
      intro a49 w51 HF50 HO52; clear HF46 HO48
      have HO53 : Own w w51 [Chunk.blk g43 (.cells #[.int .i64 ((es.getD i.toNat z70).f0), .int .i64 ((es.getD i.toNat z70).f1), .string ((es.getD i.toNat z70).f2), .int .i64 ((es.getD i.toNat z70).f3)] 70 (0, 0))] := HO52
      clear HO52
      refine wpList_nil ?_
      refine gw_nx (hK28 _ _ ?_)
      refine gw_seq fun K54 hK54 => ?_
      refine wp_region_lit ?_
      refine gw_ev HF50 (want_none rfl) rfl (by decide) (op_field (gwfld70_0 _ _) rfl (HF50.ev rfl)) ?_
      intro a55 HF56; clear HF50
      refine gw_ev HF56 (want_none rfl) rfl (by decide) (op_load1 gwagg3 rfl (HF56.ev rfl) (blk_at (HO53.get 0 rfl) rfl)) ?_
      intro a57 HF58; clear HF56
      refine gw_ev HF58 (want_none rfl) rfl (by decide) (op_assign rfl (HF58.ev rfl)) ?_
      intro a59 HF60; clear HF58
      refine wpList_nil ?_
      refine gw_nx (hK54 _ _ ?_)
      refine gw_seq fun K61 hK61 => ?_
      refine gw_seq fun K62 hK62 => ?_
      refine wp_region_lit ?_
      refine gw_ev HF60 (want_none rfl) rfl (by decide) (op_move rfl (HF60.ev rfl)) ?_
      intro a63 HF64; clear HF60
      refine gw_ev HF64 (want_none rfl) rfl (by decide) (op_lss rfl (HF64.ev rfl) (ev_c _ _)) ?_
      intro a65 HF66; clear HF64
      refine gw_ev HF66 (want_none rfl) rfl (by decide) (op_move rfl (HF66.ev rfl)) ?_
      intro a67 HF68; clear HF66
      refine gw_evG HF68 rfl rfl rfl rfl (on_f _) rfl (by decide) (fun h_ => (op_move rfl (HF68.ev rfl))) ?_
      intro a69 HF70; clear HF68
      refine gw_evG HF70 rfl rfl rfl rfl (on_f _) rfl (by decide) (fun h_ => (op_gtr rfl (ev_gv (HF70.ev rfl) h_) (ev_c _ _))) ?_
      intro a71 HF72; clear HF70
      refine gw_ev HF72 (want_none rfl) rfl (by decide) (op_pick_or rfl (HF72.ev rfl) (ev_c _ _) (fun hp_ => (ev_gv (HF72.ev rfl) (not_t hp_)))) ?_
      intro a73 HF74; clear HF72
      refine gw_ev HF74 (want_none rfl) rfl (by decide) (op_move rfl (HF74.ev rfl)) ?_
      intro a75 HF76; clear HF74
      refine gw_evG HF76 rfl rfl rfl rfl (on_f _) rfl (by decide) (fun h_ => (op_field (gwfld70_3 _ _) rfl (HF76.ev rfl))) ?_
      intro a77 HF78; clear HF76
      refine gw_evG HF78 rfl rfl rfl rfl (on_f _) rfl (by decide) (fun h_ => (op_load1 gwagg2 rfl (ev_gv (HF78.ev rfl) h_) (blk_at (HO53.get 0 rfl) rfl))) ?_
      intro a79 HF80; clear HF78
      refine gw_evG HF80 rfl rfl rfl rfl (on_f _) rfl (by decide) (fun h_ => (op_lss rfl (ev_gv (HF80.ev rfl) h_) (ev_c _ _))) ?_
      intro a81 HF82; clear HF80
      refine gw_ev HF82 (want_none rfl) rfl (by decide) (op_pick_or rfl (HF82.ev rfl) (ev_c _ _) (fun hp_ => (ev_gv (HF82.ev rfl) (not_t hp_)))) ?_
      intro a83 HF84; clear HF82
      refine gw_ev HF84 (want_none rfl) rfl (by decide) (op_move rfl (HF84.ev rfl)) ?_
      intro a85 HF86; clear HF84
      refine gw_evG HF86 rfl rfl rfl rfl (on_f _) rfl (by decide) (fun h_ => (op_field (gwfld70_1 _ _) rfl (HF86.ev rfl))) ?_
      intro a87 HF88; clear HF86
      refine gw_evG HF88 rfl rfl rfl rfl (on_f _) rfl (by decide) (fun h_ => (op_load1 gwagg3 rfl (ev_gv (HF88.ev rfl) h_) (blk_at (HO53.get 0 rfl) rfl))) ?_
      intro a89 HF90; clear HF88
      refine gw_evG HF90 rfl rfl rfl rfl (on_f _) rfl (by decide) (fun h_ => (op_lss rfl (ev_gv (HF90.ev rfl) h_) (ev_c _ _))) ?_
      intro a91 HF92; clear HF90
      refine gw_ev HF92 (want_none rfl) rfl (by decide) (op_pick_or rfl (HF92.ev rfl) (ev_c _ _) (fun hp_ => (ev_gv (HF92.ev rfl) (not_t hp_)))) ?_
      intro a93 HF94; clear HF92
      refine wpList_nil ?_
      refine gw_nx (hK62 _ _ ?_)
      refine gw_cond HF94 rfl (fun hb95 => ?_) (fun hb95 => ?_)
      · skip
        have HF96 := HF94.subst_ (d := 35) (b := true) rfl hb95
        clear HF94
        (try simp only [Bool.and_eq_true, Bool.or_eq_true, Bool.and_eq_false_iff, Bool.or_eq_false_iff, Bool.not_and, Bool.not_or, Bool.not_not, decide_eq_true_eq, decide_eq_false_iff_not, Bool.not_eq_true', Bool.not_eq_false', Bool.not_eq_true, Bool.not_eq_false, ne_eq, Decidable.not_not, Int.not_lt, Int.not_le, not_true_eq_false, not_false_eq_true, bne_iff_ne, beq_iff_eq, bne_eq_false_iff_eq, beq_eq_false_iff_ne] at hb95)
        refine gw_seq fun K97 hK97 => ?_
        refine wp_region_lit ?_
        refine gw_ev HF96 (want_none rfl) rfl (by decide) (op_assign rfl (ev_c _ _)) ?_
        intro a98 HF99; clear HF96
        refine wpList_nil ?_
        refine gw_nx (hK97 _ _ ?_)
        refine wp_ret ?_
        refine gw_thr ?_
        refine gw_blr ?_
        refine gw_thr ?_
        refine gw_thr ?_
        refine gw_blr ?_
        refine gw_thr ?_
        refine gw_ret1 HF99 rfl rfl ?_
        exact ⟨by rw [right_no (es := es) (i := i.toNat) (by omega) (by first | exact rr_no1 (by omega) (by omega) (by assumption) | exact rr_no2 (by omega) (by omega) (by assumption) | exact rr_no3 (by omega) (by omega) (by assumption) | exact rr_no4 (by omega) (by omega) (by assumption))], HO53.below⟩
      · skip
        have HF100 := HF94.subst_ (d := 35) (b := false) rfl hb95
        clear HF94
        (try simp only [Bool.and_eq_true, Bool.or_eq_true, Bool.and_eq_false_iff, Bool.or_eq_false_iff, Bool.not_and, Bool.not_or, Bool.not_not, decide_eq_true_eq, decide_eq_false_iff_not, Bool.not_eq_true', Bool.not_eq_false', Bool.not_eq_true, Bool.not_eq_false, ne_eq, Decidable.not_not, Int.not_lt, Int.not_le, not_true_eq_false, not_false_eq_true, bne_iff_ne, beq_iff_eq, bne_eq_false_iff_eq, beq_eq_false_iff_ne] at hb95)
        refine wp_skip ?_
        refine gw_nx (hK61 _ _ ?_)
        refine gw_seq fun K101 hK101 => ?_
        refine wp_region_lit ?_
        refine gw_ev HF100 (want_none rfl) rfl (by decide) (op_move rfl (HF100.ev rfl)) ?_
        intro a102 HF103; clear HF100
        refine gw_ev HF103 (want_none rfl) rfl (by decide) (op_eqi rfl (HF103.ev rfl) (ev_c _ _)) ?_
        intro a104 HF105; clear HF103
        refine gw_ev HF105 (want_none rfl) rfl (by decide) (op_move rfl (HF105.ev rfl)) ?_
        intro a106 HF107; clear HF105
        refine gw_evG HF107 rfl rfl rfl rfl (on_f _) rfl (by decide) (fun h_ => (op_move rfl (HF107.ev rfl))) ?_
        intro a108 HF109; clear HF107
        refine gw_evG HF109 rfl rfl rfl rfl (on_f _) rfl (by decide) (fun h_ => (op_eqi rfl (ev_gv (HF109.ev rfl) h_) (ev_c _ _))) ?_
        intro a110 HF111; clear HF109
        refine gw_ev HF111 (want_none rfl) rfl (by decide) (op_pick_or rfl (HF111.ev rfl) (ev_c _ _) (fun hp_ => (ev_gv (HF111.ev rfl) (not_t hp_)))) ?_
        intro a112 HF113; clear HF111
        refine gw_ev HF113 (want_none rfl) rfl (by decide) (op_move rfl (HF113.ev rfl)) ?_
        intro a114 HF115; clear HF113
        refine gw_evG HF115 rfl rfl rfl rfl (on_f _) rfl (by decide) (fun h_ => (op_move rfl (HF115.ev rfl))) ?_
        intro a116 HF117; clear HF115
        refine gw_evG HF117 rfl rfl rfl rfl (on_f _) rfl (by decide) (fun h_ => (op_eqi rfl (ev_gv (HF117.ev rfl) h_) (ev_c _ _))) ?_
        intro a118 HF119; clear HF117
        refine gw_ev HF119 (want_none rfl) rfl (by decide) (op_pick_or rfl (HF119.ev rfl) (ev_c _ _) (fun hp_ => (ev_gv (HF119.ev rfl) (not_t hp_)))) ?_
        intro a120 HF121; clear HF119
        refine gw_ev HF121 (want_none rfl) rfl (by decide) (op_assign rfl (HF121.ev rfl)) ?_
        intro a122 HF123; clear HF121
        refine wpList_nil ?_
        refine gw_nx (hK101 _ _ ?_)
        refine gw_seq fun K124 hK124 => ?_
        refine wp_region_lit ?_
        refine gw_ev HF123 (want_none rfl) rfl (by decide) (op_move rfl (HF123.ev rfl)) ?_
        intro a125 HF126; clear HF123
        refine gw_ev HF126 (want_none rfl) rfl (by decide) (op_eqi rfl (HF126.ev rfl) (ev_c _ _)) ?_
        intro a127 HF128; clear HF126
        refine gw_ev HF128 (want_none rfl) rfl (by decide) (op_move rfl (HF128.ev rfl)) ?_
        intro a129 HF130; clear HF128
        refine gw_evG HF130 rfl rfl rfl rfl (on_f _) rfl (by decide) (fun h_ => (op_move rfl (HF130.ev rfl))) ?_
        intro a131 HF132; clear HF130
        refine gw_evG HF132 rfl rfl rfl rfl (on_f _) rfl (by decide) (fun h_ => (op_eqi rfl (ev_gv (HF132.ev rfl) h_) (ev_c _ _))) ?_
        intro a133 HF134; clear HF132
        refine gw_ev HF134 (want_none rfl) rfl (by decide) (op_pick_or rfl (HF134.ev rfl) (ev_c _ _) (fun hp_ => (ev_gv (HF134.ev rfl) (not_t hp_)))) ?_
        intro a135 HF136; clear HF134
        refine gw_ev HF136 (want_none rfl) rfl (by decide) (op_move rfl (HF136.ev rfl)) ?_
        intro a137 HF138; clear HF136
        refine gw_evG HF138 rfl rfl rfl rfl (on_f _) rfl (by decide) (fun h_ => (op_move rfl (HF138.ev rfl))) ?_
        intro a139 HF140; clear HF138
        refine gw_evG HF140 rfl rfl rfl rfl (on_f _) rfl (by decide) (fun h_ => (op_eqi rfl (ev_gv (HF140.ev rfl) h_) (ev_c _ _))) ?_
        intro a141 HF142; clear HF140
        refine gw_ev HF142 (want_none rfl) rfl (by decide) (op_pick_or rfl (HF142.ev rfl) (ev_c _ _) (fun hp_ => (ev_gv (HF142.ev rfl) (not_t hp_)))) ?_
        intro a143 HF144; clear HF142
        refine gw_ev HF144 (want_none rfl) rfl (by decide) (op_move rfl (HF144.ev rfl)) ?_
        intro a145 HF146; clear HF144
        refine gw_evG HF146 rfl rfl rfl rfl (on_f _) rfl (by decide) (fun h_ => (op_move rfl (HF146.ev rfl))) ?_
        intro a147 HF148; clear HF146
        refine gw_evG HF148 rfl rfl rfl rfl (on_f _) rfl (by decide) (fun h_ => (op_eqi rfl (ev_gv (HF148.ev rfl) h_) (ev_c _ _))) ?_
        intro a149 HF150; clear HF148
        refine gw_ev HF150 (want_none rfl) rfl (by decide) (op_pick_or rfl (HF150.ev rfl) (ev_c _ _) (fun hp_ => (ev_gv (HF150.ev rfl) (not_t hp_)))) ?_
        intro a151 HF152; clear HF150
        refine gw_ev HF152 (want_none rfl) rfl (by decide) (op_assign rfl (HF152.ev rfl)) ?_
        intro a153 HF154; clear HF152
        refine wpList_nil ?_
        refine gw_nx (hK124 _ _ ?_)
        refine gw_seq fun K155 hK155 => ?_
        refine gw_seq fun K156 hK156 => ?_
        refine wp_region_lit ?_
        refine gw_ev HF154 (want_none rfl) rfl (by decide) (op_move rfl (HF154.ev rfl)) ?_
        intro a157 HF158; clear HF154
        refine gw_ev HF158 (want_none rfl) rfl (by decide) (op_not rfl (HF158.ev rfl)) ?_
        intro a159 HF160; clear HF158
        refine gw_ev HF160 (want_none rfl) rfl (by decide) (op_move rfl (HF160.ev rfl)) ?_
        intro a161 HF162; clear HF160
        refine gw_evG HF162 rfl rfl rfl rfl (on_t _) rfl (by decide) (fun h_ => (op_field (gwfld70_1 _ _) rfl (HF162.ev rfl))) ?_
        intro a163 HF164; clear HF162
        refine gw_evG HF164 rfl rfl rfl rfl (on_t _) rfl (by decide) (fun h_ => (op_load1 gwagg3 rfl (ev_gv (HF164.ev rfl) h_) (blk_at (HO53.get 0 rfl) rfl))) ?_
        intro a165 HF166; clear HF164
        refine gw_evG HF166 rfl rfl rfl rfl (on_t _) rfl (by decide) (fun h_ => (op_lss rfl (ev_gv (HF166.ev rfl) h_) (ev_c _ _))) ?_
        intro a167 HF168; clear HF166
        refine gw_ev HF168 (want_none rfl) rfl (by decide) (op_pick_and rfl (HF168.ev rfl) (fun hp_ => (ev_gv (HF168.ev rfl) hp_)) (ev_c _ _)) ?_
        intro a169 HF170; clear HF168
        refine gw_ev HF170 (want_none rfl) rfl (by decide) (op_move rfl (HF170.ev rfl)) ?_
        intro a171 HF172; clear HF170
        refine gw_evG HF172 rfl rfl rfl rfl (on_f _) rfl (by decide) (fun h_ => (op_move rfl (HF172.ev rfl))) ?_
        intro a173 HF174; clear HF172
        refine gw_evG HF174 rfl rfl rfl rfl (on_f _) rfl (by decide) (fun h_ => (op_not rfl (ev_gv (HF174.ev rfl) h_))) ?_
        intro a175 HF176; clear HF174
        refine gw_evG HF176 rfl rfl rfl rfl (on_f _) rfl (by decide) (fun h_ => (op_move rfl (ev_gv (HF176.ev rfl) h_))) ?_
        intro a177 HF178; clear HF176
        refine gw_evG HF178 rfl rfl rfl rfl (on_gt _ _) rfl (by decide) (fun h_ => (op_move rfl (HF178.ev rfl))) ?_
        intro a179 HF180; clear HF178
        refine gw_evG HF180 rfl rfl rfl rfl (on_gt _ _) rfl (by decide) (fun h_ => (op_not rfl (ev_gv (HF180.ev rfl) (andi (and1 h_) (and2 h_))))) ?_
        intro a181 HF182; clear HF180
        refine gw_evG HF182 rfl rfl rfl rfl (on_f _) rfl (by decide) (fun h_ => (op_pick_and rfl (ev_gv (HF182.ev rfl) h_) (fun hp_ => (ev_gv (HF182.ev rfl) (andi h_ hp_))) (ev_c _ _))) ?_
        intro a183 HF184; clear HF182
        refine gw_evG HF184 rfl rfl rfl rfl (on_f _) rfl (by decide) (fun h_ => (op_move rfl (ev_gv (HF184.ev rfl) h_))) ?_
        intro a185 HF186; clear HF184
        refine gw_evG HF186 rfl rfl rfl rfl (on_gt _ _) rfl (by decide) (fun h_ => (op_field (gwfld70_1 _ _) rfl (HF186.ev rfl))) ?_
        intro a187 HF188; clear HF186
        refine gw_evG HF188 rfl rfl rfl rfl (on_gt _ _) rfl (by decide) (fun h_ => (op_load1 gwagg3 rfl (ev_gv (HF188.ev rfl) (andi (and1 h_) (and2 h_))) (blk_at (HO53.get 0 rfl) rfl))) ?_
        intro a189 HF190; clear HF188
        refine gw_evG HF190 rfl rfl rfl rfl (on_gt _ _) rfl (by decide) (fun h_ => (op_nei rfl (ev_gv (HF190.ev rfl) (andi (and1 h_) (and2 h_))) (ev_c _ _))) ?_
        intro a191 HF192; clear HF190
        refine gw_evG HF192 rfl rfl rfl rfl (on_f _) rfl (by decide) (fun h_ => (op_pick_and rfl (ev_gv (HF192.ev rfl) h_) (fun hp_ => (ev_gv (HF192.ev rfl) (andi h_ hp_))) (ev_c _ _))) ?_
        intro a193 HF194; clear HF192
        refine gw_ev HF194 (want_none rfl) rfl (by decide) (op_pick_or rfl (HF194.ev rfl) (ev_c _ _) (fun hp_ => (ev_gv (HF194.ev rfl) (not_t hp_)))) ?_
        intro a195 HF196; clear HF194
        refine wpList_nil ?_
        refine gw_nx (hK156 _ _ ?_)
        refine gw_cond HF196 rfl (fun hb197 => ?_) (fun hb197 => ?_)
        · skip
          have HF198 := HF196.subst_ (d := 79) (b := true) rfl hb197
          clear HF196
          (try simp only [Bool.and_eq_true, Bool.or_eq_true, Bool.and_eq_false_iff, Bool.or_eq_false_iff, Bool.not_and, Bool.not_or, Bool.not_not, decide_eq_true_eq, decide_eq_false_iff_not, Bool.not_eq_true', Bool.not_eq_false', Bool.not_eq_true, Bool.not_eq_false, ne_eq, Decidable.not_not, Int.not_lt, Int.not_le, not_true_eq_false, not_false_eq_true, bne_iff_ne, beq_iff_eq, bne_eq_false_iff_eq, beq_eq_false_iff_ne] at hb197)
          refine gw_seq fun K199 hK199 => ?_
          refine wp_region_lit ?_
          refine gw_ev HF198 (want_none rfl) rfl (by decide) (op_assign rfl (ev_c _ _)) ?_
          intro a200 HF201; clear HF198
          refine wpList_nil ?_
          refine gw_nx (hK199 _ _ ?_)
          refine wp_ret ?_
          refine gw_thr ?_
          refine gw_blr ?_
          refine gw_thr ?_
          refine gw_thr ?_
          refine gw_blr ?_
          refine gw_thr ?_
          refine gw_ret1 HF201 rfl rfl ?_
          exact ⟨by rw [right_no (es := es) (i := i.toNat) (by omega) (by first | exact rr_no1 (by omega) (by omega) (by assumption) | exact rr_no2 (by omega) (by omega) (by assumption) | exact rr_no3 (by omega) (by omega) (by assumption) | exact rr_no4 (by omega) (by omega) (by assumption))], HO53.below⟩
        · skip
          have HF202 := HF196.subst_ (d := 79) (b := false) rfl hb197
          clear HF196
          (try simp only [Bool.and_eq_true, Bool.or_eq_true, Bool.and_eq_false_iff, Bool.or_eq_false_iff, Bool.not_and, Bool.not_or, Bool.not_not, decide_eq_true_eq, decide_eq_false_iff_not, Bool.not_eq_true', Bool.not_eq_false', Bool.not_eq_true, Bool.not_eq_false, ne_eq, Decidable.not_not, Int.not_lt, Int.not_le, not_true_eq_false, not_false_eq_true, bne_iff_ne, beq_iff_eq, bne_eq_false_iff_eq, beq_eq_false_iff_ne] at hb197)
          refine wp_skip ?_
          refine gw_nx (hK155 _ _ ?_)
          refine gw_seq fun K203 hK203 => ?_
          refine gw_seq fun K204 hK204 => ?_
          refine wp_region_lit ?_
          refine gw_ev HF202 (want_none rfl) rfl (by decide) (op_move rfl (HF202.ev rfl)) ?_
          intro a205 HF206; clear HF202
          refine gw_ev HF206 (want_none rfl) rfl (by decide) (op_nei rfl (HF206.ev rfl) (ev_c _ _)) ?_
          intro a207 HF208; clear HF206
          refine gw_ev HF208 (want_none rfl) rfl (by decide) (op_move rfl (HF208.ev rfl)) ?_
          intro a209 HF210; clear HF208
          refine gw_evG HF210 rfl rfl rfl rfl (on_t _) rfl (by decide) (fun h_ => (op_move rfl (HF210.ev rfl))) ?_
          intro a211 HF212; clear HF210
          refine gw_evG HF212 rfl rfl rfl rfl (on_t _) rfl (by decide) (fun h_ => (op_nei rfl (ev_gv (HF212.ev rfl) h_) (ev_c _ _))) ?_
          intro a213 HF214; clear HF212
          refine gw_ev HF214 (want_none rfl) rfl (by decide) (op_pick_and rfl (HF214.ev rfl) (fun hp_ => (ev_gv (HF214.ev rfl) hp_)) (ev_c _ _)) ?_
          intro a215 HF216; clear HF214
          refine gw_ev HF216 (want_none rfl) rfl (by decide) (op_move rfl (HF216.ev rfl)) ?_
          intro a217 HF218; clear HF216
          refine gw_evG HF218 rfl rfl rfl rfl (on_t _) rfl (by decide) (fun h_ => (op_move rfl (HF218.ev rfl))) ?_
          intro a219 HF220; clear HF218
          refine gw_evG HF220 rfl rfl rfl rfl (on_t _) rfl (by decide) (fun h_ => (op_nei rfl (ev_gv (HF220.ev rfl) h_) (ev_c _ _))) ?_
          intro a221 HF222; clear HF220
          refine gw_ev HF222 (want_none rfl) rfl (by decide) (op_pick_and rfl (HF222.ev rfl) (fun hp_ => (ev_gv (HF222.ev rfl) hp_)) (ev_c _ _)) ?_
          intro a223 HF224; clear HF222
          refine gw_ev HF224 (want_none rfl) rfl (by decide) (op_move rfl (HF224.ev rfl)) ?_
          intro a225 HF226; clear HF224
          refine gw_evG HF226 rfl rfl rfl rfl (on_t _) rfl (by decide) (fun h_ => (op_field (gwfld70_2 _ _) rfl (HF226.ev rfl))) ?_
          intro a227 HF228; clear HF226
          refine gw_evG HF228 rfl rfl rfl rfl (on_t _) rfl (by decide) (fun h_ => (op_load1 gwagg9 rfl (ev_gv (HF228.ev rfl) h_) (blk_at (HO53.get 0 rfl) rfl))) ?_
          intro a229 HF230; clear HF228
          refine gw_evG HF230 rfl rfl rfl rfl (on_t _) rfl (by decide) (fun h_ => (op_nes rfl (ev_gv (HF230.ev rfl) h_) (ev_c _ _))) ?_
          intro a231 HF232; clear HF230
          refine gw_ev HF232 (want_none rfl) rfl (by decide) (op_pick_and rfl (HF232.ev rfl) (fun hp_ => (ev_gv (HF232.ev rfl) hp_)) (ev_c _ _)) ?_
          intro a233 HF234; clear HF232
          refine wpList_nil ?_
          refine gw_nx (hK204 _ _ ?_)
          refine gw_cond HF234 rfl (fun hb235 => ?_) (fun hb235 => ?_)
          · skip
            have HF236 := HF234.subst_ (d := 94) (b := true) rfl hb235
            clear HF234
            (try simp only [Bool.and_eq_true, Bool.or_eq_true, Bool.and_eq_false_iff, Bool.or_eq_false_iff, Bool.not_and, Bool.not_or, Bool.not_not, decide_eq_true_eq, decide_eq_false_iff_not, Bool.not_eq_true', Bool.not_eq_false', Bool.not_eq_true, Bool.not_eq_false, ne_eq, Decidable.not_not, Int.not_lt, Int.not_le, not_true_eq_false, not_false_eq_true, bne_iff_ne, beq_iff_eq, bne_eq_false_iff_eq, beq_eq_false_iff_ne] at hb235)
            refine gw_seq fun K237 hK237 => ?_
            refine wp_region_lit ?_
            refine gw_ev HF236 (want_none rfl) rfl (by decide) (op_assign rfl (ev_c _ _)) ?_
            intro a238 HF239; clear HF236
            refine wpList_nil ?_
            refine gw_nx (hK237 _ _ ?_)
            refine wp_ret ?_
            refine gw_thr ?_
            refine gw_blr ?_
            refine gw_thr ?_
            refine gw_thr ?_
            refine gw_blr ?_
            refine gw_thr ?_
            refine gw_ret1 HF239 rfl rfl ?_
            exact ⟨by rw [right_no (es := es) (i := i.toNat) (by omega) (by first | exact rr_no1 (by omega) (by omega) (by assumption) | exact rr_no2 (by omega) (by omega) (by assumption) | exact rr_no3 (by omega) (by omega) (by assumption) | exact rr_no4 (by omega) (by omega) (by assumption))], HO53.below⟩
          · skip
            have HF240 := HF234.subst_ (d := 94) (b := false) rfl hb235
            clear HF234
            (try simp only [Bool.and_eq_true, Bool.or_eq_true, Bool.and_eq_false_iff, Bool.or_eq_false_iff, Bool.not_and, Bool.not_or, Bool.not_not, decide_eq_true_eq, decide_eq_false_iff_not, Bool.not_eq_true', Bool.not_eq_false', Bool.not_eq_true, Bool.not_eq_false, ne_eq, Decidable.not_not, Int.not_lt, Int.not_le, not_true_eq_false, not_false_eq_true, bne_iff_ne, beq_iff_eq, bne_eq_false_iff_eq, beq_eq_false_iff_ne] at hb235)
            refine wp_skip ?_
            refine gw_nx (hK203 _ _ ?_)
            refine gw_seq fun K241 hK241 => ?_
            refine gw_drawB HO53 (by kernel_rfl) (by kernel_rfl) fun w242 HO243 => ?_
            clear HO53
            refine gq_ev HF240 (want_none rfl) rfl (by decide) (fun wq hq => have HO := HO243.after hq; (op_move rfl (HF240.ev rfl))) ?_
            intro a244 HF245; clear HF240
            refine gq_ev HF245 (want_none rfl) rfl (by decide) (fun wq hq => have HO := HO243.after hq; (op_eqi rfl (HF245.ev rfl) (ev_c _ _))) ?_
            intro a246 HF247; clear HF245
            refine gq_ev HF247 (want_none rfl) rfl (by decide) (fun wq hq => have HO := HO243.after hq; (op_move rfl (HF247.ev rfl))) ?_
            intro a248 HF249; clear HF247
            refine gq_evG HF249 rfl rfl rfl rfl (on_t _) rfl (by decide) (fun h_ wq hq => have HO := HO243.after hq; (op_field (gwfld70_3 _ _) rfl (HF249.ev rfl))) ?_
            intro a250 HF251; clear HF249
            refine gq_evG HF251 rfl rfl rfl rfl (on_t _) rfl (by decide) (fun h_ wq hq => have HO := HO243.after hq; (op_load1 gwagg2 rfl (ev_gv (HF251.ev rfl) h_) (blk_at (HO.get 0 rfl) rfl))) ?_
            intro a252 HF253; clear HF251
            refine gq_evG HF253 rfl rfl rfl rfl (on_t _) rfl (by decide) (fun h_ wq hq => have HO := HO243.after hq; (op_nei rfl (ev_gv (HF253.ev rfl) h_) (ev_c _ _))) ?_
            intro a254 HF255; clear HF253
            refine gq_ev HF255 (want_none rfl) rfl (by decide) (fun wq hq => have HO := HO243.after hq; (op_pick_and rfl (HF255.ev rfl) (fun hp_ => (ev_gv (HF255.ev rfl) hp_)) (ev_c _ _))) ?_
            intro a256 HF257; clear HF255
            refine gq_ev HF257 (want_none rfl) rfl (by decide) (fun wq hq => have HO := HO243.after hq; (op_move rfl (HF257.ev rfl))) ?_
            intro a258 HF259; clear HF257
            refine gq_evG HF259 rfl rfl rfl rfl (on_f _) rfl (by decide) (fun h_ wq hq => have HO := HO243.after hq; (op_move rfl (HF259.ev rfl))) ?_
            intro a260 HF261; clear HF259
            refine gq_evG HF261 rfl rfl rfl rfl (on_f _) rfl (by decide) (fun h_ wq hq => have HO := HO243.after hq; (op_nei rfl (ev_gv (HF261.ev rfl) h_) (ev_c _ _))) ?_
            intro a262 HF263; clear HF261
            refine gq_evG HF263 rfl rfl rfl rfl (on_f _) rfl (by decide) (fun h_ wq hq => have HO := HO243.after hq; (op_move rfl (ev_gv (HF263.ev rfl) h_))) ?_
            intro a264 HF265; clear HF263
            refine gq_evG HF265 rfl rfl rfl rfl (on_gt _ _) rfl (by decide) (fun h_ wq hq => have HO := HO243.after hq; (op_move rfl (HF265.ev rfl))) ?_
            intro a266 HF267; clear HF265
            refine gq_evG HF267 rfl rfl rfl rfl (on_gt _ _) rfl (by decide) (fun h_ wq hq => have HO := HO243.after hq; (op_gtr rfl (ev_gv (HF267.ev rfl) (andi (and1 h_) (and2 h_))) (ev_c _ _))) ?_
            intro a268 HF269; clear HF267
            refine gq_evG HF269 rfl rfl rfl rfl (on_f _) rfl (by decide) (fun h_ wq hq => have HO := HO243.after hq; (op_pick_and rfl (ev_gv (HF269.ev rfl) h_) (fun hp_ => (ev_gv (HF269.ev rfl) (andi h_ hp_))) (ev_c _ _))) ?_
            intro a270 HF271; clear HF269
            refine gq_evG HF271 rfl rfl rfl rfl (on_f _) rfl (by decide) (fun h_ wq hq => have HO := HO243.after hq; (op_move rfl (ev_gv (HF271.ev rfl) h_))) ?_
            intro a272 HF273; clear HF271
            refine gq_evG HF273 rfl rfl rfl rfl (on_gt _ _) rfl (by decide) (fun h_ wq hq => have HO := HO243.after hq; (op_field (gwfld70_3 _ _) rfl (HF273.ev rfl))) ?_
            intro a274 HF275; clear HF273
            refine gq_evG HF275 rfl rfl rfl rfl (on_gt _ _) rfl (by decide) (fun h_ wq hq => have HO := HO243.after hq; (op_load1 gwagg2 rfl (ev_gv (HF275.ev rfl) (andi (and1 h_) (and2 h_))) (blk_at (HO.get 0 rfl) rfl))) ?_
            intro a276 HF277; clear HF275
            refine gq_evG HF277 rfl rfl rfl rfl (on_gt _ _) rfl (by decide) (fun h_ wq hq => have HO := HO243.after hq; (op_move rfl (HF277.ev rfl))) ?_
            intro a278 HF279; clear HF277
            refine gq_evG HF279 rfl rfl rfl rfl (on_gt _ _) rfl (by decide) (fun h_ wq hq => have HO := HO243.after hq; (op_move rfl (HF279.ev rfl))) ?_
            intro a280 HF281; clear HF279
            refine gq_evG HF281 rfl rfl rfl rfl (on_gt _ _) rfl (by decide) (fun h_ wq hq => have HO := HO243.after hq; (op_sub rfl (ev_gv (HF281.ev rfl) (andi (and1 h_) (and2 h_))) (ev_c _ _) (by (try simp only [Bool.and_eq_true, Bool.or_eq_true, Bool.and_eq_false_iff, Bool.or_eq_false_iff, Bool.not_and, Bool.not_or, Bool.not_not, decide_eq_true_eq, decide_eq_false_iff_not, Bool.not_eq_true', Bool.not_eq_false', Bool.not_eq_true, Bool.not_eq_false, ne_eq, Decidable.not_not, Int.not_lt, Int.not_le, not_true_eq_false, not_false_eq_true, bne_iff_ne, beq_iff_eq, bne_eq_false_iff_eq, beq_eq_false_iff_ne] at h_); omega))) ?_
            intro a282 HF283; clear HF281
            obtain ⟨ad287, cs290, hA288, hl291, hK292, hc289⟩ := C_getT hr0 z70 (i - 1) (⟨_, k70_mk _ z70⟩)
            obtain rfl := k70_open hK292
            clear hl291
            refine gq_evG HF283 rfl rfl rfl rfl (on_gt _ _) rfl (by decide) (fun h_ wq hq => have HO := HO243.after hq; (op_index Try.underlying66 gwsiz70 rfl (ev_gv (HF283.ev rfl) (andi (and1 h_) (and2 h_))) (ev_gv (HF283.ev rfl) (andi (and1 h_) (and2 h_))) (hA288 ⟨by (try simp only [Bool.and_eq_true, Bool.or_eq_true, Bool.and_eq_false_iff, Bool.or_eq_false_iff, Bool.not_and, Bool.not_or, Bool.not_not, decide_eq_true_eq, decide_eq_false_iff_not, Bool.not_eq_true', Bool.not_eq_false', Bool.not_eq_true, Bool.not_eq_false, ne_eq, Decidable.not_not, Int.not_lt, Int.not_le, not_true_eq_false, not_false_eq_true, bne_iff_ne, beq_iff_eq, bne_eq_false_iff_eq, beq_eq_false_iff_ne] at h_); omega, by (try simp only [Bool.and_eq_true, Bool.or_eq_true, Bool.and_eq_false_iff, Bool.or_eq_false_iff, Bool.not_and, Bool.not_or, Bool.not_not, decide_eq_true_eq, decide_eq_false_iff_not, Bool.not_eq_true', Bool.not_eq_false', Bool.not_eq_true, Bool.not_eq_false, ne_eq, Decidable.not_not, Int.not_lt, Int.not_le, not_true_eq_false, not_false_eq_true, bne_iff_ne, beq_iff_eq, bne_eq_false_iff_eq, beq_eq_false_iff_ne] at h_); omega⟩) (⟨by (try simp only [Bool.and_eq_true, Bool.or_eq_true, Bool.and_eq_false_iff, Bool.or_eq_false_iff, Bool.not_and, Bool.not_or, Bool.not_not, decide_eq_true_eq, decide_eq_false_iff_not, Bool.not_eq_true', Bool.not_eq_false', Bool.not_eq_true, Bool.not_eq_false, ne_eq, Decidable.not_not, Int.not_lt, Int.not_le, not_true_eq_false, not_false_eq_true, bne_iff_ne, beq_iff_eq, bne_eq_false_iff_eq, beq_eq_false_iff_ne] at h_); omega, by (try simp only [Bool.and_eq_true, Bool.or_eq_true, Bool.and_eq_false_iff, Bool.or_eq_false_iff, Bool.not_and, Bool.not_or, Bool.not_not, decide_eq_true_eq, decide_eq_false_iff_not, Bool.not_eq_true', Bool.not_eq_false', Bool.not_eq_true, Bool.not_eq_false, ne_eq, Decidable.not_not, Int.not_lt, Int.not_le, not_true_eq_false, not_false_eq_true, bne_iff_ne, beq_iff_eq, bne_eq_false_iff_eq, beq_eq_false_iff_ne] at h_); omega⟩))) ?_
            intro a293 HF294; clear HF283
            refine gq_evG HF294 rfl rfl rfl rfl (on_gt _ _) rfl (by decide) (fun h_ wq hq => have HO := HO243.after hq; (op_field (gwflda70_3 _) rfl (ev_gv (HF294.ev rfl) (andi (and1 h_) (and2 h_))))) ?_
            intro a295 HF296; clear HF294
            refine gq_evG HF296 rfl rfl rfl rfl (on_gt _ _) rfl (by decide) (fun h_ wq hq => have HO := HO243.after hq; (op_load1 gwagg2 rfl (ev_gv (HF296.ev rfl) (andi (and1 h_) (and2 h_))) ((cells0 HO (hc289 ⟨by (try simp only [Bool.and_eq_true, Bool.or_eq_true, Bool.and_eq_false_iff, Bool.or_eq_false_iff, Bool.not_and, Bool.not_or, Bool.not_not, decide_eq_true_eq, decide_eq_false_iff_not, Bool.not_eq_true', Bool.not_eq_false', Bool.not_eq_true, Bool.not_eq_false, ne_eq, Decidable.not_not, Int.not_lt, Int.not_le, not_true_eq_false, not_false_eq_true, bne_iff_ne, beq_iff_eq, bne_eq_false_iff_eq, beq_eq_false_iff_ne] at h_); omega, by (try simp only [Bool.and_eq_true, Bool.or_eq_true, Bool.and_eq_false_iff, Bool.or_eq_false_iff, Bool.not_and, Bool.not_or, Bool.not_not, decide_eq_true_eq, decide_eq_false_iff_not, Bool.not_eq_true', Bool.not_eq_false', Bool.not_eq_true, Bool.not_eq_false, ne_eq, Decidable.not_not, Int.not_lt, Int.not_le, not_true_eq_false, not_false_eq_true, bne_iff_ne, beq_iff_eq, bne_eq_false_iff_eq, beq_eq_false_iff_ne] at h_); omega⟩) 3 _ rfl)))) ?_
            intro a297 HF298; clear HF296
            refine gq_evG HF298 rfl rfl rfl rfl (on_gt _ _) rfl (by decide) (fun h_ wq hq => have HO := HO243.after hq; (op_lss rfl (ev_gv (HF298.ev rfl) (andi (and1 h_) (and2 h_))) (ev_gv (HF298.ev rfl) (andi (and1 h_) (and2 h_))))) ?_
            intro a299 HF300; clear HF298
            refine gq_evG HF300 rfl rfl rfl rfl (on_f _) rfl (by decide) (fun h_ wq hq => have HO := HO243.after hq; (op_pick_and rfl (ev_gv (HF300.ev rfl) h_) (fun hp_ => (ev_gv (HF300.ev rfl) (andi h_ hp_))) (ev_c _ _))) ?_
            intro a301 HF302; clear HF300
            refine gq_ev HF302 (want_none rfl) rfl (by decide) (fun wq hq => have HO := HO243.after hq; (op_pick_or rfl (HF302.ev rfl) (ev_c _ _) (fun hp_ => (ev_gv (HF302.ev rfl) (not_t hp_))))) ?_
            intro a303 HF304; clear HF302
            refine gq_ev HF304 (want_none rfl) rfl (by decide) (fun wq hq => have HO := HO243.after hq; (op_move rfl (HF304.ev rfl))) ?_
            intro a305 HF306; clear HF304
            refine gq_evG HF306 rfl rfl rfl rfl (on_f _) rfl (by decide) (fun h_ wq hq => have HO := HO243.after hq; (op_move rfl (HF306.ev rfl))) ?_
            intro a307 HF308; clear HF306
            refine gq_evG HF308 rfl rfl rfl rfl (on_f _) rfl (by decide) (fun h_ wq hq => have HO := HO243.after hq; (op_add rfl (ev_gv (HF308.ev rfl) h_) (ev_c _ _) (by (try simp only [Bool.and_eq_true, Bool.or_eq_true, Bool.and_eq_false_iff, Bool.or_eq_false_iff, Bool.not_and, Bool.not_or, Bool.not_not, decide_eq_true_eq, decide_eq_false_iff_not, Bool.not_eq_true', Bool.not_eq_false', Bool.not_eq_true, Bool.not_eq_false, ne_eq, Decidable.not_not, Int.not_lt, Int.not_le, not_true_eq_false, not_false_eq_true, bne_iff_ne, beq_iff_eq, bne_eq_false_iff_eq, beq_eq_false_iff_ne] at h_); omega))) ?_
            intro a309 HF310; clear HF308
            refine gq_evG HF310 rfl rfl rfl rfl (on_f _) rfl (by decide) (fun h_ wq hq => have HO := HO243.after hq; (op_move rfl (HF310.ev rfl))) ?_
            intro a311 HF312; clear HF310
            refine gq_evG HF312 rfl rfl rfl rfl (on_f _) rfl (by decide) (fun h_ wq hq => have HO := HO243.after hq; (op_len Try.underlying66 rfl (ev_gv (HF312.ev rfl) h_))) ?_
            intro a313 HF314; clear HF312
            refine gq_evG HF314 rfl rfl rfl rfl (on_f _) rfl (by decide) (fun h_ wq hq => have HO := HO243.after hq; (op_lss rfl (ev_gv (HF314.ev rfl) h_) (ev_gv (HF314.ev rfl) h_))) ?_
            intro a315 HF316; clear HF314
            refine gq_evG HF316 rfl rfl rfl rfl (on_f _) rfl (by decide) (fun h_ wq hq => have HO := HO243.after hq; (op_move rfl (ev_gv (HF316.ev rfl) h_))) ?_
            intro a317 HF318; clear HF316
            refine gq_evG HF318 rfl rfl rfl rfl (on_gt _ _) rfl (by decide) (fun h_ wq hq => have HO := HO243.after hq; (op_loadn gwagg70 gwsiz70 rfl (HF318.ev rfl) (HO.get 0 rfl) rfl rfl)) ?_
            intro a319 HF320; clear HF318
            refine gq_callG HF320 rfl rfl rfl rfl (on_gt _ _) rfl (by decide) (fun h_ wq hq => have HO := HO243.after hq; (op_callL Try.func52 (by kernel_rfl) rfl rfl (ar_cons (ev_gv (HF320.ev rfl) (andi (and1 h_) (and2 h_))) ar_nil))) (fun h_ wq hq => have HO := HO243.after hq; (GDecides_.rdecides_calls (es.getD i.toNat z70) _).mono fun e w' h => ⟨h.1, below_then hq h.2⟩) ?_
            intro a321 HF322; clear HF320
            refine gq_evG HF322 rfl rfl rfl rfl (on_f _) rfl (by decide) (fun h_ wq hq => have HO := HO243.after hq; (op_pick_and rfl (ev_gv (HF322.ev rfl) h_) (fun hp_ => (ev_gv (HF322.ev rfl) (andi h_ hp_))) (ev_c _ _))) ?_
            intro a323 HF324; clear HF322
            refine gq_ev HF324 (want_none rfl) rfl (by decide) (fun wq hq => have HO := HO243.after hq; (op_pick_or rfl (HF324.ev rfl) (ev_c _ _) (fun hp_ => (ev_gv (HF324.ev rfl) (not_t hp_))))) ?_
            intro a325 HF326; clear HF324
            refine wpQuiet_nil ?_
            intro w327 hq
            have HO328 := HO243.after hq
            clear HO243 hq
            refine gw_nx (hK241 _ _ ?_)
            refine gw_cond HF326 rfl (fun hb329 => ?_) (fun hb329 => ?_)
            · skip
              have HF330 := HF326.subst_ (d := 131) (b := true) rfl hb329
              clear HF326
              (try simp only [Bool.and_eq_true, Bool.or_eq_true, Bool.and_eq_false_iff, Bool.or_eq_false_iff, Bool.not_and, Bool.not_or, Bool.not_not, decide_eq_true_eq, decide_eq_false_iff_not, Bool.not_eq_true', Bool.not_eq_false', Bool.not_eq_true, Bool.not_eq_false, ne_eq, Decidable.not_not, Int.not_lt, Int.not_le, not_true_eq_false, not_false_eq_true, bne_iff_ne, beq_iff_eq, bne_eq_false_iff_eq, beq_eq_false_iff_ne] at hb329)
              refine gw_seq fun K331 hK331 => ?_
              refine wp_region_lit ?_
              refine gw_ev HF330 (want_none rfl) rfl (by decide) (op_assign rfl (ev_c _ _)) ?_
              intro a332 HF333; clear HF330
              refine wpList_nil ?_
              refine gw_nx (hK331 _ _ ?_)
              refine wp_ret ?_
              refine gw_blr ?_
              refine gw_thr ?_
              refine gw_thr ?_
              refine gw_blr ?_
              refine gw_thr ?_
              refine gw_ret1 HF333 rfl rfl ?_
              exact ⟨by rw [right_no (es := es) (i := i.toNat) (by omega) (by first | exact rr_no1 (by omega) (by omega) (by assumption) | exact rr_no2 (by omega) (by omega) (by assumption) | exact rr_no3 (by omega) (by omega) (by assumption) | exact rr_no4 (by omega) (by omega) (by assumption))], HO328.below⟩
            · skip
              have HF334 := HF326.subst_ (d := 131) (b := false) rfl hb329
              clear HF326
              (try simp only [Bool.and_eq_true, Bool.or_eq_true, Bool.and_eq_false_iff, Bool.or_eq_false_iff, Bool.not_and, Bool.not_or, Bool.not_not, decide_eq_true_eq, decide_eq_false_iff_not, Bool.not_eq_true', Bool.not_eq_false', Bool.not_eq_true, Bool.not_eq_false, ne_eq, Decidable.not_not, Int.not_lt, Int.not_le, not_true_eq_false, not_false_eq_true, bne_iff_ne, beq_iff_eq, bne_eq_false_iff_eq, beq_eq_false_iff_ne] at hb329)
              refine wp_skip ?_
              refine gw_blk ?_
              refine gw_nx (hK27 _ _ ?_)
              refine wp_region_lit ?_
              refine gw_ev HF334 (want_none rfl) rfl (by decide) (op_move rfl (HF334.ev rfl)) ?_
              intro a335 HF336; clear HF334
              refine gw_ev HF336 (want_none rfl) rfl (by decide) (op_add rfl (HF336.ev rfl) (ev_c _ _) (by omega)) ?_
              intro a337 HF338; clear HF336
              refine gw_ev HF338 (want_none rfl) rfl (by decide) (op_assign rfl (HF338.ev rfl)) ?_
              intro a339 HF340; clear HF338
              refine wpList_nil ?_
              refine gw_nx ⟨_, ?_, i + 1, (HF340.pick (t := 3) rfl (HF340.pick (t := 0) rfl HF340.nil)), HO328.sel [] (by decide), ?_, ?_, rfl⟩
              · rw [hm14]; omega
              · omega
              · exact all_succ (by omega) hall (rr_yes (by omega) (by omega) (by assumption) (by assumption) (by assumption) (by assumption))
    · skip
      have HF341 := HF24.subst_ (d := 11) (b := false) rfl hb25
      clear HF24
      (try simp only [Bool.and_eq_true, Bool.or_eq_true, Bool.and_eq_false_iff, Bool.or_eq_false_iff, Bool.not_and, Bool.not_or, Bool.not_not, decide_eq_true_eq, decide_eq_false_iff_not, Bool.not_eq_true', Bool.not_eq_false', Bool.not_eq_true, Bool.not_eq_false, ne_eq, Decidable.not_not, Int.not_lt, Int.not_le, not_true_eq_false, not_false_eq_true, bne_iff_ne, beq_iff_eq, bne_eq_false_iff_eq, beq_eq_false_iff_ne] at hb25)
      refine wp_exit ?_
      refine gw_thx ?_
      refine gw_thx ?_
      refine gw_in ?_
      refine gw_nx (hK4 _ _ ?_)
      refine gw_seq fun K342 hK342 => ?_
      refine wp_region_lit ?_
      refine gw_ev HF341 (want_none rfl) rfl (by decide) (op_assign rfl (ev_c _ _)) ?_
      intro a343 HF344; clear HF341
      refine wpList_nil ?_
      refine gw_nx (hK342 _ _ ?_)
      refine wp_ret ?_
      refine gw_ret1 HF344 rfl rfl ?_
      exact ⟨by rw [right_yes (es := es) (fun j hj => hall j (by omega))], HO13.below⟩
end GRightR_
end Go.Proofs.Ytmlemnfleicnfaa.PA
