/- The program's Right. Printed by a program of this session; Lean checks it. -/
import Derived.Test.YtmlemnfleicnfaaGDecides
import Derived.Test.YtmlemnfleicnfaaGRightE
namespace Go.Proofs.Ytmlemnfleicnfaa.PA
open Go.RowKit Go.Proofs.YtmlemnfleicnfaaW.PrintWords Go.Proofs.YtmlemnfleicnfaaW.PrintLast Go.Proofs.YtmlemnfleicnfaaW.PrintMore
set_option linter.unusedVariables false
set_option linter.unusedSimpArgs false
namespace GRightT_
theorem gwagg2 : ∀ w, (isAgg 2).run Try.prog w = .ok false w := fun _ => by kernel_rfl
theorem gwagg3 : ∀ w, (isAgg 3).run Try.prog w = .ok false w := fun _ => by kernel_rfl
theorem gwagg70 : ∀ w, (isAgg 70).run Try.prog w = .ok true w := fun _ => by kernel_rfl
theorem gwfld70_0 (g off : Nat) : ∀ w, (Instr.fieldAt 70 (.pointer (some ⟨g, off, none⟩)) 0).run Try.prog w = .ok (.pointer (some ⟨g, off + 0, none⟩)) w := fun _ => by kernel_rfl
theorem gwfld70_3 (g off : Nat) : ∀ w, (Instr.fieldAt 70 (.pointer (some ⟨g, off, none⟩)) 3).run Try.prog w = .ok (.pointer (some ⟨g, off + 3, none⟩)) w := fun _ => by kernel_rfl
theorem gwsiz70 : ∀ w, (sizeOf 70).run Try.prog w = .ok 4 w := fun _ => by kernel_rfl
theorem gwzer70 : ∀ w, (zeroValue 70).run Try.prog w = .ok (.agg #[.int .i64 0, .int .i64 0, .string (⟨#[]⟩ : ByteArray), .int .i64 0]) w := fun _ => by kernel_rfl
set_option maxHeartbeats 4000000 in
set_option maxRecDepth 100000 in
theorem rightt_calls (A0 : Option Addr) (c0 : Nat) (es : List S70) (w : World) (hr0 : Kd.C k70 w A0 es.length es) (hc0 : es.length ≤ c0) (hl : es.length ≤ 9223372036854775807) :
    Calls Try.prog 53 #[.slice A0 es.length c0] w fun e w' => e = .returned (.bool (rightAll es)) ∧ Below w.heap.size w w' := by
  refine gw_start (N := 42) (vs := [.slice A0 es.length c0]) Try.func53 rfl rfl (by simp) fun a HF HO => ?_
  replace HO : Own w w [] := HO
  refine gw_seq fun K1 hK1 => ?_
  refine wp_region_lit ?_
  refine gw_ev HF (want_none rfl) rfl (by decide) (op_assign rfl (ev_c _ _)) ?_
  intro a2 HF3; clear HF
  refine wpList_nil ?_
  refine gw_nx (hK1 _ _ ?_)
  refine gw_seq fun K4 hK4 => ?_
  refine wp_region_lit ?_
  refine gw_ev HF3 (want_none rfl) rfl (by decide) (op_assign rfl (ev_c _ _)) ?_
  intro a5 HF6; clear HF3
  refine wpList_nil ?_
  refine gw_nx (hK4 _ _ ?_)
  refine gw_seq fun K7 hK7 => ?_
  refine gw_seq fun K8 hK8 => ?_
  refine wp_region_lit ?_
  refine gw_ev HF6 (want_none rfl) rfl (by decide) (op_move rfl (HF6.ev rfl)) ?_
  intro a9 HF10; clear HF6
  refine gw_ev HF10 (want_none rfl) rfl (by decide) (op_len Try.underlying66 rfl (HF10.ev rfl)) ?_
  intro a11 HF12; clear HF10
  refine gw_ev HF12 (want_none rfl) rfl (by decide) (op_move rfl (ev_c _ _)) ?_
  intro a13 HF14; clear HF12
  refine wpList_nil ?_
  refine gw_nx (hK8 _ _ ?_)
  refine wp_block ?_
  refine gw_loop (fun m_ a_ w_ => ∃ (i : Int) (at_ : Int), Fr 42 a_ [(8, .int .i64 i), (3, .int .i64 at_), (0, .slice A0 es.length c0), (6, .slice A0 es.length c0), (7, .int .i64 (es.length : Int))] ∧ Own w w_ [] ∧ (0 ≤ i ∧ i ≤ es.length) ∧ (at_ = (if i = 0 then 0 else (es.getD (i.toNat - 1) z70).f3)) ∧ (∀ j : Nat, j < i.toNat → okAt es j) ∧ m_ = (es.length - i.toNat)) ((es.length - (0 : Int).toNat)) ?_ ?_
  · refine ⟨0, 0, (HF14.pick (t := 8) rfl (HF14.pick (t := 3) rfl (HF14.pick (t := 0) rfl (HF14.pick (t := 6) rfl (HF14.pick (t := 7) rfl HF14.nil))))), HO.sel [] (by decide), ?_, ?_, ?_, rfl⟩
    · omega
    · simp
    · intro j hj; simp at hj
  · rintro m16 a17 w18 ⟨i, at_, HF19, HO20, hi, hat, hall, hm21⟩
    refine gw_seq fun K22 hK22 => ?_
    refine wp_region_lit ?_
    refine gw_ev HF19 (want_none rfl) rfl (by decide) (op_lss rfl (HF19.ev rfl) (HF19.ev rfl)) ?_
    intro a23 HF24; clear HF19
    refine wpList_nil ?_
    refine gw_nx (hK22 _ _ ?_)
    refine gw_seq fun K25 hK25 => ?_
    refine gw_cond HF24 rfl (fun hb26 => ?_) (fun hb26 => ?_)
    · skip
      have HF27 := HF24.subst_ (d := 9) (b := true) rfl hb26
      clear HF24
      (try simp only [Bool.and_eq_true, Bool.or_eq_true, Bool.and_eq_false_iff, Bool.or_eq_false_iff, Bool.not_and, Bool.not_or, Bool.not_not, decide_eq_true_eq, decide_eq_false_iff_not, Bool.not_eq_true', Bool.not_eq_false', Bool.not_eq_true, Bool.not_eq_false, ne_eq, Decidable.not_not, Int.not_lt, Int.not_le, not_true_eq_false, not_false_eq_true, bne_iff_ne, beq_iff_eq, bne_eq_false_iff_eq, beq_eq_false_iff_ne] at hb26)
      refine wp_skip ?_
      refine gw_nx (hK25 _ _ ?_)
      refine gw_seq fun K28 hK28 => ?_
      refine wp_block ?_
      refine gw_seq fun K29 hK29 => ?_
      refine wp_region_lit ?_
      refine gw_ev HF27 (want_none rfl) rfl (by decide) (op_move rfl (HF27.ev rfl)) ?_
      intro a30 HF31; clear HF27
      obtain ⟨ad32, cs35, hA33, hl36, hK37, hc34⟩ := Kd.C_get hr0 z70 i (by omega) (by omega)
      obtain rfl := k70_open hK37
      clear hl36
      refine gw_ev HF31 (want_none rfl) rfl (by decide) (op_index Try.underlying66 gwsiz70 rfl (HF31.ev rfl) (HF31.ev rfl) hA33 (⟨by omega, by omega⟩)) ?_
      intro a38 HF39; clear HF31
      refine gw_ev HF39 (want_none rfl) rfl (by decide) (op_loadc gwagg70 gwsiz70 rfl (HF39.ev rfl) rfl (cells0 HO20 hc34)) ?_
      intro a40 HF41; clear HF39
      refine gw_new HF41 HO20 (want_none rfl) rfl (by decide) (op_alloc gwzer70 rfl) ?_
      intro g42 a43 w44 HF45 HO46; clear HF41 HO20
      have HO47 : Own w w44 [Chunk.blk g42 (.cells #[.int .i64 0, .int .i64 0, .string (⟨#[]⟩ : ByteArray), .int .i64 0] 70 (0, 0))] := HO46
      clear HO46
      refine gw_ev HF45 (want_none rfl) rfl (by decide) (op_assign rfl (HF45.ev rfl)) ?_
      intro a48 HF49; clear HF45
      refine gw_setn 0 HF49 HO47 rfl (want_none rfl) rfl (op_storen gwsiz70 rfl (HF49.ev rfl) (HF49.ev rfl) (HO47.get 0 rfl) rfl (by simp) (by simp [Value.oneCell'])) ?_
      intro a50 w52 HF51 HO53; clear HF49 HO47
      have HO54 : Own w w52 [Chunk.blk g42 (.cells #[.int .i64 ((es.getD i.toNat z70).f0), .int .i64 ((es.getD i.toNat z70).f1), .string ((es.getD i.toNat z70).f2), .int .i64 ((es.getD i.toNat z70).f3)] 70 (0, 0))] := HO53
      clear HO53
      refine wpList_nil ?_
      refine gw_nx (hK29 _ _ ?_)
      refine gw_seq fun K55 hK55 => ?_
      refine gw_seq fun K56 hK56 => ?_
      refine wp_region_lit ?_
      refine gw_ev HF51 (want_none rfl) rfl (by decide) (op_field (gwfld70_0 _ _) rfl (HF51.ev rfl)) ?_
      intro a57 HF58; clear HF51
      refine gw_ev HF58 (want_none rfl) rfl (by decide) (op_load1 gwagg3 rfl (HF58.ev rfl) (blk_at (HO54.get 0 rfl) rfl)) ?_
      intro a59 HF60; clear HF58
      refine gw_ev HF60 (want_none rfl) rfl (by decide) (op_eqi rfl (HF60.ev rfl) (ev_c _ _)) ?_
      intro a61 HF62; clear HF60
      refine wpList_nil ?_
      refine gw_nx (hK56 _ _ ?_)
      refine gw_cond HF62 rfl (fun hb63 => ?_) (fun hb63 => ?_)
      · skip
        have HF64 := HF62.subst_ (d := 15) (b := true) rfl hb63
        clear HF62
        (try simp only [Bool.and_eq_true, Bool.or_eq_true, Bool.and_eq_false_iff, Bool.or_eq_false_iff, Bool.not_and, Bool.not_or, Bool.not_not, decide_eq_true_eq, decide_eq_false_iff_not, Bool.not_eq_true', Bool.not_eq_false', Bool.not_eq_true, Bool.not_eq_false, ne_eq, Decidable.not_not, Int.not_lt, Int.not_le, not_true_eq_false, not_false_eq_true, bne_iff_ne, beq_iff_eq, bne_eq_false_iff_eq, beq_eq_false_iff_ne] at hb63)
        refine gw_seq fun K65 hK65 => ?_
        refine wp_region_lit ?_
        refine gw_ev HF64 (want_none rfl) rfl (by decide) (op_assign rfl (ev_c _ _)) ?_
        intro a66 HF67; clear HF64
        refine wpList_nil ?_
        refine gw_nx (hK65 _ _ ?_)
        refine gw_seq fun K68 hK68 => ?_
        refine wp_region_lit ?_
        refine gw_ev HF67 (want_none rfl) rfl (by decide) (op_field (gwfld70_3 _ _) rfl (HF67.ev rfl)) ?_
        intro a69 HF70; clear HF67
        refine gw_ev HF70 (want_none rfl) rfl (by decide) (op_load1 gwagg2 rfl (HF70.ev rfl) (blk_at (HO54.get 0 rfl) rfl)) ?_
        intro a71 HF72; clear HF70
        refine gw_ev HF72 (want_none rfl) rfl (by decide) (op_nei rfl (HF72.ev rfl) (ev_c _ _)) ?_
        intro a73 HF74; clear HF72
        refine wpList_nil ?_
        refine gw_nx (hK68 _ _ ?_)
        refine gw_cond HF74 rfl (fun hb75 => ?_) (fun hb75 => ?_)
        · skip
          have HF76 := HF74.subst_ (d := 18) (b := true) rfl hb75
          clear HF74
          (try simp only [Bool.and_eq_true, Bool.or_eq_true, Bool.and_eq_false_iff, Bool.or_eq_false_iff, Bool.not_and, Bool.not_or, Bool.not_not, decide_eq_true_eq, decide_eq_false_iff_not, Bool.not_eq_true', Bool.not_eq_false', Bool.not_eq_true, Bool.not_eq_false, ne_eq, Decidable.not_not, Int.not_lt, Int.not_le, not_true_eq_false, not_false_eq_true, bne_iff_ne, beq_iff_eq, bne_eq_false_iff_eq, beq_eq_false_iff_ne] at hb75)
          refine gw_seq fun K77 hK77 => ?_
          refine wp_region_lit ?_
          refine gw_ev HF76 (want_none rfl) rfl (by decide) (op_assign rfl (ev_c _ _)) ?_
          intro a78 HF79; clear HF76
          refine wpList_nil ?_
          refine gw_nx (hK77 _ _ ?_)
          refine wp_ret ?_
          refine gw_thr ?_
          refine gw_blr ?_
          refine gw_thr ?_
          refine gw_thr ?_
          refine gw_blr ?_
          refine gw_thr ?_
          refine gw_ret1 HF79 rfl rfl ?_
          exact ⟨by rw [right_no (es := es) (i := i.toNat) (by omega) (by first | exact ok_no (at1 := 0) (by omega) (by omega) hat (fun _ => rfl) (fun h => absurd (by assumption) h) (by assumption) | exact ok_no (at1 := at_) (by omega) (by omega) hat (fun h => absurd h (by assumption)) (fun _ => rfl) (by assumption) | (intro h; have := h.2.1 (by assumption); omega))], HO54.below⟩
        · skip
          have HF80 := HF74.subst_ (d := 18) (b := false) rfl hb75
          clear HF74
          (try simp only [Bool.and_eq_true, Bool.or_eq_true, Bool.and_eq_false_iff, Bool.or_eq_false_iff, Bool.not_and, Bool.not_or, Bool.not_not, decide_eq_true_eq, decide_eq_false_iff_not, Bool.not_eq_true', Bool.not_eq_false', Bool.not_eq_true, Bool.not_eq_false, ne_eq, Decidable.not_not, Int.not_lt, Int.not_le, not_true_eq_false, not_false_eq_true, bne_iff_ne, beq_iff_eq, bne_eq_false_iff_eq, beq_eq_false_iff_ne] at hb75)
          refine wp_skip ?_
          refine gw_nx (hK55 _ _ ?_)
          refine gw_seq fun K81 hK81 => ?_
          refine gw_seq fun K82 hK82 => ?_
          refine wp_region_lit ?_
          refine gw_ev HF80 (want_none rfl) rfl (by decide) (op_loadn gwagg70 gwsiz70 rfl (HF80.ev rfl) (HO54.get 0 rfl) rfl rfl) ?_
          intro a83 HF84; clear HF80
          refine gw_call HF84 (want_none rfl) rfl (by decide) (op_callL Try.func67 (by kernel_rfl) rfl rfl (ar_cons (HF84.ev rfl) ar_nil)) (GRightE_.right_calls (es.getD i.toNat z70) _) ?_
          rintro e85 w86 ⟨rfl, hb87⟩
          refine ⟨_, rfl, fun a88 HF89 => ?_⟩
          have HO90 := HO54.after hb87
          clear HF84 HO54 hb87
          refine gw_ev HF89 (want_none rfl) rfl (by decide) (op_not rfl (HF89.ev rfl)) ?_
          intro a92 HF93; clear HF89
          refine gw_ev HF93 (want_none rfl) rfl (by decide) (op_move rfl (HF93.ev rfl)) ?_
          intro a94 HF95; clear HF93
          refine gw_evG HF95 rfl rfl rfl rfl (on_f _) rfl (by decide) (fun h_ => (op_field (gwfld70_3 _ _) rfl (HF95.ev rfl))) ?_
          intro a96 HF97; clear HF95
          refine gw_evG HF97 rfl rfl rfl rfl (on_f _) rfl (by decide) (fun h_ => (op_load1 gwagg2 rfl (ev_gv (HF97.ev rfl) h_) (blk_at (HO90.get 0 rfl) rfl))) ?_
          intro a98 HF99; clear HF97
          refine gw_evG HF99 rfl rfl rfl rfl (on_f _) rfl (by decide) (fun h_ => (op_move rfl (HF99.ev rfl))) ?_
          intro a100 HF101; clear HF99
          refine gw_evG HF101 rfl rfl rfl rfl (on_f _) rfl (by decide) (fun h_ => (op_lss rfl (ev_gv (HF101.ev rfl) h_) (ev_gv (HF101.ev rfl) h_))) ?_
          intro a102 HF103; clear HF101
          refine gw_ev HF103 (want_none rfl) rfl (by decide) (op_pick_or rfl (HF103.ev rfl) (ev_c _ _) (fun hp_ => (ev_gv (HF103.ev rfl) (not_t hp_)))) ?_
          intro a104 HF105; clear HF103
          refine gw_ev HF105 (want_none rfl) rfl (by decide) (op_move rfl (HF105.ev rfl)) ?_
          intro a106 HF107; clear HF105
          refine gw_evG HF107 rfl rfl rfl rfl (on_f _) rfl (by decide) (fun h_ => (op_loadn gwagg70 gwsiz70 rfl (HF107.ev rfl) (HO90.get 0 rfl) rfl rfl)) ?_
          intro a108 HF109; clear HF107
          refine gw_callG HF109 rfl rfl rfl rfl (on_f _) rfl (by decide) (fun h_ => (op_callL Try.func51 (by kernel_rfl) rfl rfl (ar_cons (ev_gv (HF109.ev rfl) h_) ar_nil))) (fun h_ => GDecides_.decides_calls (es.getD i.toNat z70) _) ?_
          intro a110 w112 hb113 HF111
          have HO114 := HO90.after hb113; clear HF109 HO90 hb113
          refine gw_evG HF111 rfl rfl rfl rfl (on_f _) rfl (by decide) (fun h_ => (op_move rfl (ev_gv (HF111.ev rfl) h_))) ?_
          intro a115 HF116; clear HF111
          refine gw_evG HF116 rfl rfl rfl rfl (on_gt _ _) rfl (by decide) (fun h_ => (op_move rfl (HF116.ev rfl))) ?_
          intro a117 HF118; clear HF116
          refine gw_evG HF118 rfl rfl rfl rfl (on_gt _ _) rfl (by decide) (fun h_ => (op_move rfl (HF118.ev rfl))) ?_
          intro a119 HF120; clear HF118
          refine gw_evG HF120 rfl rfl rfl rfl (on_gt _ _) rfl (by decide) (fun h_ => (op_len Try.underlying66 rfl (ev_gv (HF120.ev rfl) (andi (and1 h_) (and2 h_))))) ?_
          intro a121 HF122; clear HF120
          refine gw_evG HF122 rfl rfl rfl rfl (on_gt _ _) rfl (by decide) (fun h_ => (op_sub rfl (ev_gv (HF122.ev rfl) (andi (and1 h_) (and2 h_))) (ev_c _ _) (by (try simp only [Bool.and_eq_true, Bool.or_eq_true, Bool.and_eq_false_iff, Bool.or_eq_false_iff, Bool.not_and, Bool.not_or, Bool.not_not, decide_eq_true_eq, decide_eq_false_iff_not, Bool.not_eq_true', Bool.not_eq_false', Bool.not_eq_true, Bool.not_eq_false, ne_eq, Decidable.not_not, Int.not_lt, Int.not_le, not_true_eq_false, not_false_eq_true, bne_iff_ne, beq_iff_eq, bne_eq_false_iff_eq, beq_eq_false_iff_ne] at h_); omega))) ?_
          intro a123 HF124; clear HF122
          refine gw_evG HF124 rfl rfl rfl rfl (on_gt _ _) rfl (by decide) (fun h_ => (op_lss rfl (ev_gv (HF124.ev rfl) (andi (and1 h_) (and2 h_))) (ev_gv (HF124.ev rfl) (andi (and1 h_) (and2 h_))))) ?_
          intro a125 HF126; clear HF124
          refine gw_evG HF126 rfl rfl rfl rfl (on_f _) rfl (by decide) (fun h_ => (op_pick_and rfl (ev_gv (HF126.ev rfl) h_) (fun hp_ => (ev_gv (HF126.ev rfl) (andi h_ hp_))) (ev_c _ _))) ?_
          intro a127 HF128; clear HF126
          refine gw_ev HF128 (want_none rfl) rfl (by decide) (op_pick_or rfl (HF128.ev rfl) (ev_c _ _) (fun hp_ => (ev_gv (HF128.ev rfl) (not_t hp_)))) ?_
          intro a129 HF130; clear HF128
          refine wpList_nil ?_
          refine gw_nx (hK82 _ _ ?_)
          refine gw_cond HF130 rfl (fun hb131 => ?_) (fun hb131 => ?_)
          · skip
            have HF132 := HF130.subst_ (d := 38) (b := true) rfl hb131
            clear HF130
            (try simp only [Bool.and_eq_true, Bool.or_eq_true, Bool.and_eq_false_iff, Bool.or_eq_false_iff, Bool.not_and, Bool.not_or, Bool.not_not, decide_eq_true_eq, decide_eq_false_iff_not, Bool.not_eq_true', Bool.not_eq_false', Bool.not_eq_true, Bool.not_eq_false, ne_eq, Decidable.not_not, Int.not_lt, Int.not_le, not_true_eq_false, not_false_eq_true, bne_iff_ne, beq_iff_eq, bne_eq_false_iff_eq, beq_eq_false_iff_ne] at hb131)
            refine gw_seq fun K133 hK133 => ?_
            refine wp_region_lit ?_
            refine gw_ev HF132 (want_none rfl) rfl (by decide) (op_assign rfl (ev_c _ _)) ?_
            intro a134 HF135; clear HF132
            refine wpList_nil ?_
            refine gw_nx (hK133 _ _ ?_)
            refine wp_ret ?_
            refine gw_thr ?_
            refine gw_blr ?_
            refine gw_thr ?_
            refine gw_thr ?_
            refine gw_blr ?_
            refine gw_thr ?_
            refine gw_ret1 HF135 rfl rfl ?_
            exact ⟨by rw [right_no (es := es) (i := i.toNat) (by omega) (by first | exact ok_no (at1 := 0) (by omega) (by omega) hat (fun _ => rfl) (fun h => absurd (by assumption) h) (by assumption) | exact ok_no (at1 := at_) (by omega) (by omega) hat (fun h => absurd h (by assumption)) (fun _ => rfl) (by assumption) | (intro h; have := h.2.1 (by assumption); omega))], HO114.below⟩
          · skip
            have HF136 := HF130.subst_ (d := 38) (b := false) rfl hb131
            clear HF130
            (try simp only [Bool.and_eq_true, Bool.or_eq_true, Bool.and_eq_false_iff, Bool.or_eq_false_iff, Bool.not_and, Bool.not_or, Bool.not_not, decide_eq_true_eq, decide_eq_false_iff_not, Bool.not_eq_true', Bool.not_eq_false', Bool.not_eq_true, Bool.not_eq_false, ne_eq, Decidable.not_not, Int.not_lt, Int.not_le, not_true_eq_false, not_false_eq_true, bne_iff_ne, beq_iff_eq, bne_eq_false_iff_eq, beq_eq_false_iff_ne] at hb131)
            refine wp_skip ?_
            refine gw_nx (hK81 _ _ ?_)
            refine wp_region_lit ?_
            refine gw_ev HF136 (want_none rfl) rfl (by decide) (op_field (gwfld70_3 _ _) rfl (HF136.ev rfl)) ?_
            intro a137 HF138; clear HF136
            refine gw_ev HF138 (want_none rfl) rfl (by decide) (op_load1 gwagg2 rfl (HF138.ev rfl) (blk_at (HO114.get 0 rfl) rfl)) ?_
            intro a139 HF140; clear HF138
            refine gw_ev HF140 (want_none rfl) rfl (by decide) (op_assign rfl (HF140.ev rfl)) ?_
            intro a141 HF142; clear HF140
            refine wpList_nil ?_
            refine gw_blk ?_
            refine gw_nx (hK28 _ _ ?_)
            refine wp_region_lit ?_
            refine gw_ev HF142 (want_none rfl) rfl (by decide) (op_add rfl (HF142.ev rfl) (ev_c _ _) (by omega)) ?_
            intro a143 HF144; clear HF142
            refine gw_ev HF144 (want_none rfl) rfl (by decide) (op_move rfl (HF144.ev rfl)) ?_
            intro a145 HF146; clear HF144
            refine wpList_nil ?_
            refine gw_nx ⟨_, ?_, i + 1, (es.getD i.toNat z70).f3, (HF146.pick (t := 8) rfl (HF146.pick (t := 3) rfl (HF146.pick (t := 0) rfl (HF146.pick (t := 6) rfl (HF146.pick (t := 7) rfl HF146.nil))))), HO114.sel [] (by decide), ?_, ?_, ?_, rfl⟩
            · rw [hm21]; omega
            · omega
            · rw [if_neg (by omega), show (i + 1).toNat - 1 = i.toNat by omega]
            · exact all_succ (by omega) hall (by first | exact ok_yes (at1 := 0) (by omega) (by omega) hat (fun _ => by assumption) (fun h => absurd (by assumption) h) (by assumption) | exact ok_yes (at1 := at_) (by omega) (by omega) hat (fun h => absurd h (by assumption)) (fun _ => rfl) (by assumption))
      · skip
        have HF147 := HF62.subst_ (d := 15) (b := false) rfl hb63
        clear HF62
        (try simp only [Bool.and_eq_true, Bool.or_eq_true, Bool.and_eq_false_iff, Bool.or_eq_false_iff, Bool.not_and, Bool.not_or, Bool.not_not, decide_eq_true_eq, decide_eq_false_iff_not, Bool.not_eq_true', Bool.not_eq_false', Bool.not_eq_true, Bool.not_eq_false, ne_eq, Decidable.not_not, Int.not_lt, Int.not_le, not_true_eq_false, not_false_eq_true, bne_iff_ne, beq_iff_eq, bne_eq_false_iff_eq, beq_eq_false_iff_ne] at hb63)
        refine wp_skip ?_
        refine gw_nx (hK55 _ _ ?_)
        refine gw_seq fun K148 hK148 => ?_
        refine gw_seq fun K149 hK149 => ?_
        refine wp_region_lit ?_
        refine gw_ev HF147 (want_none rfl) rfl (by decide) (op_loadn gwagg70 gwsiz70 rfl (HF147.ev rfl) (HO54.get 0 rfl) rfl rfl) ?_
        intro a150 HF151; clear HF147
        refine gw_call HF151 (want_none rfl) rfl (by decide) (op_callL Try.func67 (by kernel_rfl) rfl rfl (ar_cons (HF151.ev rfl) ar_nil)) (GRightE_.right_calls (es.getD i.toNat z70) _) ?_
        rintro e152 w153 ⟨rfl, hb154⟩
        refine ⟨_, rfl, fun a155 HF156 => ?_⟩
        have HO157 := HO54.after hb154
        clear HF151 HO54 hb154
        refine gw_ev HF156 (want_none rfl) rfl (by decide) (op_not rfl (HF156.ev rfl)) ?_
        intro a159 HF160; clear HF156
        refine gw_ev HF160 (want_none rfl) rfl (by decide) (op_move rfl (HF160.ev rfl)) ?_
        intro a161 HF162; clear HF160
        refine gw_evG HF162 rfl rfl rfl rfl (on_f _) rfl (by decide) (fun h_ => (op_field (gwfld70_3 _ _) rfl (HF162.ev rfl))) ?_
        intro a163 HF164; clear HF162
        refine gw_evG HF164 rfl rfl rfl rfl (on_f _) rfl (by decide) (fun h_ => (op_load1 gwagg2 rfl (ev_gv (HF164.ev rfl) h_) (blk_at (HO157.get 0 rfl) rfl))) ?_
        intro a165 HF166; clear HF164
        refine gw_evG HF166 rfl rfl rfl rfl (on_f _) rfl (by decide) (fun h_ => (op_move rfl (HF166.ev rfl))) ?_
        intro a167 HF168; clear HF166
        refine gw_evG HF168 rfl rfl rfl rfl (on_f _) rfl (by decide) (fun h_ => (op_lss rfl (ev_gv (HF168.ev rfl) h_) (ev_gv (HF168.ev rfl) h_))) ?_
        intro a169 HF170; clear HF168
        refine gw_ev HF170 (want_none rfl) rfl (by decide) (op_pick_or rfl (HF170.ev rfl) (ev_c _ _) (fun hp_ => (ev_gv (HF170.ev rfl) (not_t hp_)))) ?_
        intro a171 HF172; clear HF170
        refine gw_ev HF172 (want_none rfl) rfl (by decide) (op_move rfl (HF172.ev rfl)) ?_
        intro a173 HF174; clear HF172
        refine gw_evG HF174 rfl rfl rfl rfl (on_f _) rfl (by decide) (fun h_ => (op_loadn gwagg70 gwsiz70 rfl (HF174.ev rfl) (HO157.get 0 rfl) rfl rfl)) ?_
        intro a175 HF176; clear HF174
        refine gw_callG HF176 rfl rfl rfl rfl (on_f _) rfl (by decide) (fun h_ => (op_callL Try.func51 (by kernel_rfl) rfl rfl (ar_cons (ev_gv (HF176.ev rfl) h_) ar_nil))) (fun h_ => GDecides_.decides_calls (es.getD i.toNat z70) _) ?_
        intro a177 w179 hb180 HF178
        have HO181 := HO157.after hb180; clear HF176 HO157 hb180
        refine gw_evG HF178 rfl rfl rfl rfl (on_f _) rfl (by decide) (fun h_ => (op_move rfl (ev_gv (HF178.ev rfl) h_))) ?_
        intro a182 HF183; clear HF178
        refine gw_evG HF183 rfl rfl rfl rfl (on_gt _ _) rfl (by decide) (fun h_ => (op_move rfl (HF183.ev rfl))) ?_
        intro a184 HF185; clear HF183
        refine gw_evG HF185 rfl rfl rfl rfl (on_gt _ _) rfl (by decide) (fun h_ => (op_move rfl (HF185.ev rfl))) ?_
        intro a186 HF187; clear HF185
        refine gw_evG HF187 rfl rfl rfl rfl (on_gt _ _) rfl (by decide) (fun h_ => (op_len Try.underlying66 rfl (ev_gv (HF187.ev rfl) (andi (and1 h_) (and2 h_))))) ?_
        intro a188 HF189; clear HF187
        refine gw_evG HF189 rfl rfl rfl rfl (on_gt _ _) rfl (by decide) (fun h_ => (op_sub rfl (ev_gv (HF189.ev rfl) (andi (and1 h_) (and2 h_))) (ev_c _ _) (by (try simp only [Bool.and_eq_true, Bool.or_eq_true, Bool.and_eq_false_iff, Bool.or_eq_false_iff, Bool.not_and, Bool.not_or, Bool.not_not, decide_eq_true_eq, decide_eq_false_iff_not, Bool.not_eq_true', Bool.not_eq_false', Bool.not_eq_true, Bool.not_eq_false, ne_eq, Decidable.not_not, Int.not_lt, Int.not_le, not_true_eq_false, not_false_eq_true, bne_iff_ne, beq_iff_eq, bne_eq_false_iff_eq, beq_eq_false_iff_ne] at h_); omega))) ?_
        intro a190 HF191; clear HF189
        refine gw_evG HF191 rfl rfl rfl rfl (on_gt _ _) rfl (by decide) (fun h_ => (op_lss rfl (ev_gv (HF191.ev rfl) (andi (and1 h_) (and2 h_))) (ev_gv (HF191.ev rfl) (andi (and1 h_) (and2 h_))))) ?_
        intro a192 HF193; clear HF191
        refine gw_evG HF193 rfl rfl rfl rfl (on_f _) rfl (by decide) (fun h_ => (op_pick_and rfl (ev_gv (HF193.ev rfl) h_) (fun hp_ => (ev_gv (HF193.ev rfl) (andi h_ hp_))) (ev_c _ _))) ?_
        intro a194 HF195; clear HF193
        refine gw_ev HF195 (want_none rfl) rfl (by decide) (op_pick_or rfl (HF195.ev rfl) (ev_c _ _) (fun hp_ => (ev_gv (HF195.ev rfl) (not_t hp_)))) ?_
        intro a196 HF197; clear HF195
        refine wpList_nil ?_
        refine gw_nx (hK149 _ _ ?_)
        refine gw_cond HF197 rfl (fun hb198 => ?_) (fun hb198 => ?_)
        · skip
          have HF199 := HF197.subst_ (d := 38) (b := true) rfl hb198
          clear HF197
          (try simp only [Bool.and_eq_true, Bool.or_eq_true, Bool.and_eq_false_iff, Bool.or_eq_false_iff, Bool.not_and, Bool.not_or, Bool.not_not, decide_eq_true_eq, decide_eq_false_iff_not, Bool.not_eq_true', Bool.not_eq_false', Bool.not_eq_true, Bool.not_eq_false, ne_eq, Decidable.not_not, Int.not_lt, Int.not_le, not_true_eq_false, not_false_eq_true, bne_iff_ne, beq_iff_eq, bne_eq_false_iff_eq, beq_eq_false_iff_ne] at hb198)
          refine gw_seq fun K200 hK200 => ?_
          refine wp_region_lit ?_
          refine gw_ev HF199 (want_none rfl) rfl (by decide) (op_assign rfl (ev_c _ _)) ?_
          intro a201 HF202; clear HF199
          refine wpList_nil ?_
          refine gw_nx (hK200 _ _ ?_)
          refine wp_ret ?_
          refine gw_thr ?_
          refine gw_blr ?_
          refine gw_thr ?_
          refine gw_thr ?_
          refine gw_blr ?_
          refine gw_thr ?_
          refine gw_ret1 HF202 rfl rfl ?_
          exact ⟨by rw [right_no (es := es) (i := i.toNat) (by omega) (by first | exact ok_no (at1 := 0) (by omega) (by omega) hat (fun _ => rfl) (fun h => absurd (by assumption) h) (by assumption) | exact ok_no (at1 := at_) (by omega) (by omega) hat (fun h => absurd h (by assumption)) (fun _ => rfl) (by assumption) | (intro h; have := h.2.1 (by assumption); omega))], HO181.below⟩
        · skip
          have HF203 := HF197.subst_ (d := 38) (b := false) rfl hb198
          clear HF197
          (try simp only [Bool.and_eq_true, Bool.or_eq_true, Bool.and_eq_false_iff, Bool.or_eq_false_iff, Bool.not_and, Bool.not_or, Bool.not_not, decide_eq_true_eq, decide_eq_false_iff_not, Bool.not_eq_true', Bool.not_eq_false', Bool.not_eq_true, Bool.not_eq_false, ne_eq, Decidable.not_not, Int.not_lt, Int.not_le, not_true_eq_false, not_false_eq_true, bne_iff_ne, beq_iff_eq, bne_eq_false_iff_eq, beq_eq_false_iff_ne] at hb198)
          refine wp_skip ?_
          refine gw_nx (hK148 _ _ ?_)
          refine wp_region_lit ?_
          refine gw_ev HF203 (want_none rfl) rfl (by decide) (op_field (gwfld70_3 _ _) rfl (HF203.ev rfl)) ?_
          intro a204 HF205; clear HF203
          refine gw_ev HF205 (want_none rfl) rfl (by decide) (op_load1 gwagg2 rfl (HF205.ev rfl) (blk_at (HO181.get 0 rfl) rfl)) ?_
          intro a206 HF207; clear HF205
          refine gw_ev HF207 (want_none rfl) rfl (by decide) (op_assign rfl (HF207.ev rfl)) ?_
          intro a208 HF209; clear HF207
          refine wpList_nil ?_
          refine gw_blk ?_
          refine gw_nx (hK28 _ _ ?_)
          refine wp_region_lit ?_
          refine gw_ev HF209 (want_none rfl) rfl (by decide) (op_add rfl (HF209.ev rfl) (ev_c _ _) (by omega)) ?_
          intro a210 HF211; clear HF209
          refine gw_ev HF211 (want_none rfl) rfl (by decide) (op_move rfl (HF211.ev rfl)) ?_
          intro a212 HF213; clear HF211
          refine wpList_nil ?_
          refine gw_nx ⟨_, ?_, i + 1, (es.getD i.toNat z70).f3, (HF213.pick (t := 8) rfl (HF213.pick (t := 3) rfl (HF213.pick (t := 0) rfl (HF213.pick (t := 6) rfl (HF213.pick (t := 7) rfl HF213.nil))))), HO181.sel [] (by decide), ?_, ?_, ?_, rfl⟩
          · rw [hm21]; omega
          · omega
          · rw [if_neg (by omega), show (i + 1).toNat - 1 = i.toNat by omega]
          · exact all_succ (by omega) hall (by first | exact ok_yes (at1 := 0) (by omega) (by omega) hat (fun _ => by assumption) (fun h => absurd (by assumption) h) (by assumption) | exact ok_yes (at1 := at_) (by omega) (by omega) hat (fun h => absurd h (by assumption)) (fun _ => rfl) (by assumption))
    · skip
      have HF214 := HF24.subst_ (d := 9) (b := false) rfl hb26
      clear HF24
      (try simp only [Bool.and_eq_true, Bool.or_eq_true, Bool.and_eq_false_iff, Bool.or_eq_false_iff, Bool.not_and, Bool.not_or, Bool.not_not, decide_eq_true_eq, decide_eq_false_iff_not, Bool.not_eq_true', Bool.not_eq_false', Bool.not_eq_true, Bool.not_eq_false, ne_eq, Decidable.not_not, Int.not_lt, Int.not_le, not_true_eq_false, not_false_eq_true, bne_iff_ne, beq_iff_eq, bne_eq_false_iff_eq, beq_eq_false_iff_ne] at hb26)
      refine wp_exit ?_
      refine gw_thx ?_
      refine gw_thx ?_
      refine gw_in ?_
      refine gw_nx (hK7 _ _ ?_)
      refine gw_seq fun K215 hK215 => ?_
      refine wp_region_lit ?_
      refine gw_ev HF214 (want_none rfl) rfl (by decide) (op_assign rfl (ev_c _ _)) ?_
      intro a216 HF217; clear HF214
      refine wpList_nil ?_
      refine gw_nx (hK215 _ _ ?_)
      refine wp_ret ?_
      refine gw_ret1 HF217 rfl rfl ?_
      exact ⟨by rw [right_yes (es := es) (fun j hj => hall j (by omega))], HO20.below⟩
end GRightT_
end Go.Proofs.Ytmlemnfleicnfaa.PA
