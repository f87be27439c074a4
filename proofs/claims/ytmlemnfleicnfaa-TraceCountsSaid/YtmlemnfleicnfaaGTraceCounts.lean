/- TraceCounts. Printed by a program of this session; Lean checks it. -/
import Derived.Test.YtmlemnfleicnfaaGCount
namespace Go.Proofs.Ytmlemnfleicnfaa.PA
open Go.RowKit Go.Proofs.YtmlemnfleicnfaaW.PrintWords Go.Proofs.YtmlemnfleicnfaaW.PrintLast Go.Proofs.YtmlemnfleicnfaaW.PrintMore
set_option linter.unusedVariables false
set_option linter.unusedSimpArgs false
namespace GTraceCounts_
theorem gwagg3 : ∀ w, (isAgg 3).run Try.prog w = .ok false w := fun _ => by kernel_rfl
theorem gwsiz3 : ∀ w, (sizeOf 3).run Try.prog w = .ok 1 w := fun _ => by kernel_rfl
theorem gwsiz58 : ∀ w, (sizeOf 58).run Try.prog w = .ok 8 w := fun _ => by kernel_rfl
theorem gwzer58 : ∀ w, (zeroValue 58).run Try.prog w = .ok (.agg #[.int .i64 0, .int .i64 0, .int .i64 0, .int .i64 0, .int .i64 0, .int .i64 0, .int .i64 0, .int .i64 0]) w := fun _ => by kernel_rfl
set_option maxHeartbeats 4000000 in
set_option maxRecDepth 100000 in
theorem TraceCounts_calls (A0 : Option Addr) (c0_ : Nat) (rs : List S61) (w : World) (hr0 : Kd.C k61 w A0 rs.length rs) (hc0 : rs.length ≤ c0_) (hl : rs.length ≤ 9223372036854775807) :
    Calls Try.prog 10 #[.slice A0 rs.length c0_] w fun e w' => e = .returned (.bool true) ∧ Below w.heap.size w w' := by
  refine gw_start (N := 34) (vs := [.slice A0 rs.length c0_]) Try.func10 rfl rfl (by simp) fun a HF HO => ?_
  replace HO : Own w w [] := HO
  refine gw_seq fun K1 hK1 => ?_
  refine wp_region_lit ?_
  refine gw_ev HF (want_none rfl) rfl (by decide) (op_assign rfl (ev_c _ _)) ?_
  intro a2 HF3; clear HF
  refine wpList_nil ?_
  refine gw_nx (hK1 _ _ ?_)
  refine gw_seq fun K4 hK4 => ?_
  refine gw_seq fun K5 hK5 => ?_
  refine wp_region_lit ?_
  refine gw_ev HF3 (want_none rfl) rfl (by decide) (op_build (cells := #[.string (⟨#[]⟩ : ByteArray), .int .i64 2]) rfl (pt_cons (ev_c _ _) pt_nil) (by kernel_rfl)) ?_
  intro a6 HF7; clear HF3
  refine gw_ev HF7 (want_none rfl) rfl (by decide) (op_build (cells := #[.string (⟨#[]⟩ : ByteArray), .int .i64 9]) rfl (pt_cons (ev_c _ _) pt_nil) (by kernel_rfl)) ?_
  intro a8 HF9; clear HF7
  refine gw_news (O := .cells #[.string (⟨#[]⟩ : ByteArray), .int .i64 2, .string (⟨#[]⟩ : ByteArray), .int .i64 9] 61 (0, 0)) (n := 2) HF9 HO (want_none rfl) rfl (by decide) (op_bslice (by kernel_rfl) rfl (pt_cons (HF9.ev rfl) (pt_cons (HF9.ev rfl) pt_nil))) ?_
  intro g10 a11 w12 HF13 HO14; clear HF9 HO
  have HO15 : Own w w12 [Chunk.blk g10 (.cells #[.string (⟨#[]⟩ : ByteArray), .int .i64 2, .string (⟨#[]⟩ : ByteArray), .int .i64 9] 61 (0, 0))] := HO14
  clear HO14
  refine gw_call HF13 (want_none rfl) rfl (by decide) (op_callL Try.func42 (by kernel_rfl) rfl rfl (ar_cons (HF13.ev rfl) ar_nil)) (GCount_.count_calls (some ⟨g10, 0, none⟩) (([(⟨(⟨#[]⟩ : ByteArray), 2⟩ : S61), (⟨(⟨#[]⟩ : ByteArray), 9⟩ : S61)]).length) ([(⟨(⟨#[]⟩ : ByteArray), 2⟩ : S61), (⟨(⟨#[]⟩ : ByteArray), 9⟩ : S61)]) _ (C_lit (cs := [.string (⟨#[]⟩ : ByteArray), .int .i64 2, .string (⟨#[]⟩ : ByteArray), .int .i64 9]) (HO15.get 0 rfl) (reps_more (k61_mk _ (⟨(⟨#[]⟩ : ByteArray), 2⟩ : S61)) rfl (reps_more (k61_mk _ (⟨(⟨#[]⟩ : ByteArray), 9⟩ : S61)) rfl reps_none)) (by decide)) (Nat.le_refl _) (by first | omega | decide)) ?_
  rintro e16 w17 ⟨rfl, hb18⟩
  refine ⟨_, rfl, fun a19 HF20 => ?_⟩
  have HO21 := HO15.after hb18
  clear HF13 HO15 hb18
  have HF23 := HF20.conv (v' := .agg #[.int .i64 1, .int .i64 0, .int .i64 1, .int .i64 0, .int .i64 0, .int .i64 0, .int .i64 0, .int .i64 0]) (by kernel_rfl)
  clear HF20
  refine gw_ev HF23 (want_none rfl) rfl (by decide) (op_build (cells := #[.int .i64 1, .int .i64 0, .int .i64 1, .int .i64 0, .int .i64 0, .int .i64 0, .int .i64 0, .int .i64 0]) rfl (pt_cons (ev_c _ _) (pt_cons (ev_c _ _) (pt_cons (ev_c _ _) pt_nil))) (by kernel_rfl)) ?_
  intro a24 HF25; clear HF23
  refine gw_ev HF25 (want_none rfl) rfl (by decide) (op_bin_run (r := .bool false) rfl (HF25.ev rfl) (HF25.ev rfl) (by kernel_rfl)) ?_
  intro a26 HF27; clear HF25
  refine wpList_nil ?_
  refine gw_nx (hK5 _ _ ?_)
  refine gw_cond HF27 rfl (fun hb28 => ?_) (fun hb28 => ?_)
  skip
  · cases hb28
  refine wp_skip ?_
  refine gw_nx (hK4 _ _ ?_)
  refine gw_seq fun K29 hK29 => ?_
  refine wp_region_lit ?_
  refine gw_ev HF27 (want_none rfl) rfl (by decide) (op_move rfl (HF27.ev rfl)) ?_
  intro a30 HF31; clear HF27
  refine gw_call HF31 (want_none rfl) rfl (by decide) (op_callL Try.func42 (by kernel_rfl) rfl rfl (ar_cons (HF31.ev rfl) ar_nil)) (GCount_.count_calls A0 c0_ rs _ (Kd.C_below hr0 HO21.below) hc0 (by first | omega | decide)) ?_
  rintro e32 w33 ⟨rfl, hb34⟩
  refine ⟨_, rfl, fun a35 HF36 => ?_⟩
  have HO37 := HO21.after hb34
  clear HF31 HO21 hb34
  refine gw_new HF36 HO37 (want_none rfl) rfl (by decide) (op_alloc gwzer58 rfl) ?_
  intro g39 a40 w41 HF42 HO43; clear HF36 HO37
  have HO44 : Own w w41 [Chunk.blk g39 (.cells #[.int .i64 0, .int .i64 0, .int .i64 0, .int .i64 0, .int .i64 0, .int .i64 0, .int .i64 0, .int .i64 0] 58 (0, 0)), Chunk.blk g10 (.cells #[.string (⟨#[]⟩ : ByteArray), .int .i64 2, .string (⟨#[]⟩ : ByteArray), .int .i64 9] 61 (0, 0))] := HO43
  clear HO43
  refine gw_setn 0 HF42 HO44 rfl (want_none rfl) rfl (op_storen gwsiz58 rfl (HF42.ev rfl) (HF42.ev rfl) (HO44.get 0 rfl) rfl (by simp) (by simp [Value.oneCell'])) ?_
  intro a45 w47 HF46 HO48; clear HF42 HO44
  have HO49 : Own w w47 [Chunk.blk g39 (.cells #[.int .i64 (cntL rs 0), .int .i64 (cntL rs 1), .int .i64 (cntL rs 2), .int .i64 (cntL rs 3), .int .i64 (cntL rs 4), .int .i64 (cntL rs 5), .int .i64 (cntL rs 6), .int .i64 (cntL rs 7)] 58 (0, 0)), Chunk.blk g10 (.cells #[.string (⟨#[]⟩ : ByteArray), .int .i64 2, .string (⟨#[]⟩ : ByteArray), .int .i64 9] 61 (0, 0))] := HO48
  clear HO48
  refine wpList_nil ?_
  refine gw_nx (hK29 _ _ ?_)
  refine gw_seq fun K50 hK50 => ?_
  refine wp_region_lit ?_
  refine gw_ev HF46 (want_none rfl) rfl (by decide) (op_assign rfl (ev_c _ _)) ?_
  intro a51 HF52; clear HF46
  refine wpList_nil ?_
  refine gw_nx (hK50 _ _ ?_)
  refine gw_seq fun K53 hK53 => ?_
  refine gw_seq fun K54 hK54 => ?_
  refine wp_region_lit ?_
  refine gw_ev HF52 (want_none rfl) rfl (by decide) (op_assign rfl (ev_c _ _)) ?_
  intro a55 HF56; clear HF52
  refine wpList_nil ?_
  refine gw_nx (hK54 _ _ ?_)
  refine wp_block ?_
  refine gw_loop (fun m_ a_ w_ => ∃ (v : Int) (tot : Int), Fr 34 a_ [(5, .int .i64 v), (4, .int .i64 tot), (0, .slice A0 rs.length c0_), (3, .pointer (some ⟨g39, 0, none⟩))] ∧ Own w w_ [Chunk.blk g39 (.cells #[.int .i64 (cntL rs 0), .int .i64 (cntL rs 1), .int .i64 (cntL rs 2), .int .i64 (cntL rs 3), .int .i64 (cntL rs 4), .int .i64 (cntL rs 5), .int .i64 (cntL rs 6), .int .i64 (cntL rs 7)] 58 (0, 0)), Chunk.blk g10 (.cells #[.string (⟨#[]⟩ : ByteArray), .int .i64 2, .string (⟨#[]⟩ : ByteArray), .int .i64 9] 61 (0, 0))] ∧ (0 ≤ v ∧ v ≤ 8) ∧ (tot = (if 0 < v then cntL rs 0 else 0) + (if 1 < v then cntL rs 1 else 0) + (if 2 < v then cntL rs 2 else 0) + (if 3 < v then cntL rs 3 else 0) + (if 4 < v then cntL rs 4 else 0) + (if 5 < v then cntL rs 5 else 0) + (if 6 < v then cntL rs 6 else 0) + (if 7 < v then cntL rs 7 else 0)) ∧ m_ = (8 - v.toNat)) ((8 - (0 : Int).toNat)) ?_ ?_
  · refine ⟨0, 0, (HF56.pick (t := 5) rfl (HF56.pick (t := 4) rfl (HF56.pick (t := 0) rfl (HF56.pick (t := 3) rfl HF56.nil)))), HO49.sel [0, 1] (by decide), ?_, ?_, rfl⟩
    · omega
    · simp
  · rintro m58 a59 w60 ⟨v, tot, HF61, HO62, hv, ht, hm63⟩
    refine gw_seq fun K64 hK64 => ?_
    refine gw_seq fun K65 hK65 => ?_
    refine wp_region_lit ?_
    refine gw_ev HF61 (want_none rfl) rfl (by decide) (op_move rfl (HF61.ev rfl)) ?_
    intro a66 HF67; clear HF61
    refine gw_ev HF67 (want_none rfl) rfl (by decide) (op_leq rfl (HF67.ev rfl) (ev_c _ _)) ?_
    intro a68 HF69; clear HF67
    refine wpList_nil ?_
    refine gw_nx (hK65 _ _ ?_)
    refine gw_cond HF69 rfl (fun hb70 => ?_) (fun hb70 => ?_)
    · skip
      have HF71 := HF69.subst_ (d := 15) (b := true) rfl hb70
      clear HF69
      (try simp only [decide_eq_true_eq, decide_eq_false_iff_not, Bool.not_eq_true', Bool.not_eq_false', Bool.not_eq_true, Bool.not_eq_false, ne_eq, Decidable.not_not, Int.not_lt, Int.not_le, not_true_eq_false, not_false_eq_true, bne_iff_ne, beq_iff_eq, bne_eq_false_iff_eq, beq_eq_false_iff_ne] at hb70)
      refine wp_skip ?_
      refine gw_nx (hK64 _ _ ?_)
      refine gw_seq fun K72 hK72 => ?_
      refine wp_block ?_
      refine gw_seq fun K73 hK73 => ?_
      refine wp_region_lit ?_
      refine gw_ev HF71 (want_none rfl) rfl (by decide) (op_move rfl (HF71.ev rfl)) ?_
      intro a74 HF75; clear HF71
      refine gw_ev HF75 (want_none rfl) rfl (by decide) (op_move rfl (HF75.ev rfl)) ?_
      intro a76 HF77; clear HF75
      rcases (show v = 0 ∨ v = 1 ∨ v = 2 ∨ v = 3 ∨ v = 4 ∨ v = 5 ∨ v = 6 ∨ v = 7 from by omega) with hv78 | hv78 | hv78 | hv78 | hv78 | hv78 | hv78 | hv78
      · skip
        have HF79 := HF77.conv (v' := .int .i64 0) (congrArg (Value.int .i64) hv78)
        clear HF77
        refine gw_ev HF79 (want_none rfl) rfl (by decide) (op_indexP (q := 0) Try.underlying58 gwsiz3 rfl (HF79.ev rfl) (HF79.ev rfl) (by decide) rfl) ?_
        intro a80 HF81; clear HF79
        refine gw_ev HF81 (want_none rfl) rfl (by decide) (op_load1 gwagg3 rfl (HF81.ev rfl) (blk_at (HO62.get 0 rfl) rfl)) ?_
        intro a82 HF83; clear HF81
        refine gw_ev HF83 (want_none rfl) rfl (by decide) (op_add rfl (HF83.ev rfl) (HF83.ev rfl) (by have hs := cnt_sum rs; have hb0 := cnt_b rs 0; have hb1 := cnt_b rs 1; have hb2 := cnt_b rs 2; have hb3 := cnt_b rs 3; have hb4 := cnt_b rs 4; have hb5 := cnt_b rs 5; have hb6 := cnt_b rs 6; have hb7 := cnt_b rs 7; subst hv78; simp at ht; omega)) ?_
        intro a84 HF85; clear HF83
        refine gw_ev HF85 (want_none rfl) rfl (by decide) (op_assign rfl (HF85.ev rfl)) ?_
        intro a86 HF87; clear HF85
        refine wpList_nil ?_
        refine gw_nx (hK73 _ _ ?_)
        refine gw_seq fun K88 hK88 => ?_
        refine gw_drawB HO62 (by kernel_rfl) (by kernel_rfl) fun w89 HO90 => ?_
        clear HO62
        refine gq_ev HF87 (want_none rfl) rfl (by decide) (fun wq hq => have HO := HO90.after hq; (op_move rfl (HF87.ev rfl))) ?_
        intro a91 HF92; clear HF87
        have HF93 := HF92.conv (v' := .int .i64 0) (congrArg (Value.int .i64) hv78)
        clear HF92
        refine gq_ev HF93 (want_none rfl) rfl (by decide) (fun wq hq => have HO := HO90.after hq; (op_indexP (q := 0) Try.underlying58 gwsiz3 rfl (HF93.ev rfl) (HF93.ev rfl) (by decide) rfl)) ?_
        intro a94 HF95; clear HF93
        refine gq_ev HF95 (want_none rfl) rfl (by decide) (fun wq hq => have HO := HO90.after hq; (op_load1 gwagg3 rfl (HF95.ev rfl) (blk_at (HO.get 0 rfl) rfl))) ?_
        intro a96 HF97; clear HF95
        refine gq_ev HF97 (want_none rfl) rfl (by decide) (fun wq hq => have HO := HO90.after hq; (op_move rfl (HF97.ev rfl))) ?_
        intro a98 HF99; clear HF97
        refine gq_ev HF99 (want_none rfl) rfl (by decide) (fun wq hq => have HO := HO90.after hq; (op_move rfl (HF99.ev rfl))) ?_
        intro a100 HF101; clear HF99
        refine gq_call HF101 (want_none rfl) rfl (by decide) (fun wq hq => have HO := HO90.after hq; (op_callL Try.func43 (by kernel_rfl) rfl rfl (ar_cons (HF101.ev rfl) (ar_cons (HF101.ev rfl) ar_nil)))) (fun wq hq => have HO := HO90.after hq; (GCount_.rcount_calls A0 c0_ rs v _ (Kd.C_below hr0 HO.below) hc0 (by omega) (by omega)).mono fun e w' h => ⟨h.1, below_then hq h.2⟩) ?_
        intro a102 HF103; clear HF101
        refine gq_ev HF103 (want_none rfl) rfl (by decide) (fun wq hq => have HO := HO90.after hq; (op_nei rfl (HF103.ev rfl) (HF103.ev rfl))) ?_
        intro a104 HF105; clear HF103
        have HF106 := HF105.lit (b := false) (by rw [hv78]; simp)
        clear HF105
        refine wpQuiet_nil ?_
        intro w107 hq
        have HO108 := HO90.after hq
        clear HO90 hq
        refine gw_nx (hK88 _ _ ?_)
        refine gw_cond HF106 rfl (fun hb109 => ?_) (fun hb109 => ?_)
        skip
        · cases hb109
        refine wp_skip ?_
        refine gw_blk ?_
        refine gw_nx (hK72 _ _ ?_)
        refine wp_region_lit ?_
        refine gw_ev HF106 (want_none rfl) rfl (by decide) (op_move rfl (HF106.ev rfl)) ?_
        intro a110 HF111; clear HF106
        refine gw_ev HF111 (want_none rfl) rfl (by decide) (op_add rfl (HF111.ev rfl) (ev_c _ _) (by omega)) ?_
        intro a112 HF113; clear HF111
        refine gw_ev HF113 (want_none rfl) rfl (by decide) (op_assign rfl (HF113.ev rfl)) ?_
        intro a114 HF115; clear HF113
        refine wpList_nil ?_
        refine gw_nx ⟨_, ?_, v + 1, tot + (cntL rs 0), (HF115.pick (t := 5) rfl (HF115.pick (t := 4) rfl (HF115.pick (t := 0) rfl (HF115.pick (t := 3) rfl HF115.nil)))), HO108.sel [0, 1] (by decide), ?_, ?_, rfl⟩
        · rw [hm63]; omega
        · omega
        · subst hv78; simp at ht ⊢; omega
      · skip
        have HF116 := HF77.conv (v' := .int .i64 1) (congrArg (Value.int .i64) hv78)
        clear HF77
        refine gw_ev HF116 (want_none rfl) rfl (by decide) (op_indexP (q := 1) Try.underlying58 gwsiz3 rfl (HF116.ev rfl) (HF116.ev rfl) (by decide) rfl) ?_
        intro a117 HF118; clear HF116
        refine gw_ev HF118 (want_none rfl) rfl (by decide) (op_load1 gwagg3 rfl (HF118.ev rfl) (blk_at (HO62.get 0 rfl) rfl)) ?_
        intro a119 HF120; clear HF118
        refine gw_ev HF120 (want_none rfl) rfl (by decide) (op_add rfl (HF120.ev rfl) (HF120.ev rfl) (by have hs := cnt_sum rs; have hb0 := cnt_b rs 0; have hb1 := cnt_b rs 1; have hb2 := cnt_b rs 2; have hb3 := cnt_b rs 3; have hb4 := cnt_b rs 4; have hb5 := cnt_b rs 5; have hb6 := cnt_b rs 6; have hb7 := cnt_b rs 7; subst hv78; simp at ht; omega)) ?_
        intro a121 HF122; clear HF120
        refine gw_ev HF122 (want_none rfl) rfl (by decide) (op_assign rfl (HF122.ev rfl)) ?_
        intro a123 HF124; clear HF122
        refine wpList_nil ?_
        refine gw_nx (hK73 _ _ ?_)
        refine gw_seq fun K125 hK125 => ?_
        refine gw_drawB HO62 (by kernel_rfl) (by kernel_rfl) fun w126 HO127 => ?_
        clear HO62
        refine gq_ev HF124 (want_none rfl) rfl (by decide) (fun wq hq => have HO := HO127.after hq; (op_move rfl (HF124.ev rfl))) ?_
        intro a128 HF129; clear HF124
        have HF130 := HF129.conv (v' := .int .i64 1) (congrArg (Value.int .i64) hv78)
        clear HF129
        refine gq_ev HF130 (want_none rfl) rfl (by decide) (fun wq hq => have HO := HO127.after hq; (op_indexP (q := 1) Try.underlying58 gwsiz3 rfl (HF130.ev rfl) (HF130.ev rfl) (by decide) rfl)) ?_
        intro a131 HF132; clear HF130
        refine gq_ev HF132 (want_none rfl) rfl (by decide) (fun wq hq => have HO := HO127.after hq; (op_load1 gwagg3 rfl (HF132.ev rfl) (blk_at (HO.get 0 rfl) rfl))) ?_
        intro a133 HF134; clear HF132
        refine gq_ev HF134 (want_none rfl) rfl (by decide) (fun wq hq => have HO := HO127.after hq; (op_move rfl (HF134.ev rfl))) ?_
        intro a135 HF136; clear HF134
        refine gq_ev HF136 (want_none rfl) rfl (by decide) (fun wq hq => have HO := HO127.after hq; (op_move rfl (HF136.ev rfl))) ?_
        intro a137 HF138; clear HF136
        refine gq_call HF138 (want_none rfl) rfl (by decide) (fun wq hq => have HO := HO127.after hq; (op_callL Try.func43 (by kernel_rfl) rfl rfl (ar_cons (HF138.ev rfl) (ar_cons (HF138.ev rfl) ar_nil)))) (fun wq hq => have HO := HO127.after hq; (GCount_.rcount_calls A0 c0_ rs v _ (Kd.C_below hr0 HO.below) hc0 (by omega) (by omega)).mono fun e w' h => ⟨h.1, below_then hq h.2⟩) ?_
        intro a139 HF140; clear HF138
        refine gq_ev HF140 (want_none rfl) rfl (by decide) (fun wq hq => have HO := HO127.after hq; (op_nei rfl (HF140.ev rfl) (HF140.ev rfl))) ?_
        intro a141 HF142; clear HF140
        have HF143 := HF142.lit (b := false) (by rw [hv78]; simp)
        clear HF142
        refine wpQuiet_nil ?_
        intro w144 hq
        have HO145 := HO127.after hq
        clear HO127 hq
        refine gw_nx (hK125 _ _ ?_)
        refine gw_cond HF143 rfl (fun hb146 => ?_) (fun hb146 => ?_)
        skip
        · cases hb146
        refine wp_skip ?_
        refine gw_blk ?_
        refine gw_nx (hK72 _ _ ?_)
        refine wp_region_lit ?_
        refine gw_ev HF143 (want_none rfl) rfl (by decide) (op_move rfl (HF143.ev rfl)) ?_
        intro a147 HF148; clear HF143
        refine gw_ev HF148 (want_none rfl) rfl (by decide) (op_add rfl (HF148.ev rfl) (ev_c _ _) (by omega)) ?_
        intro a149 HF150; clear HF148
        refine gw_ev HF150 (want_none rfl) rfl (by decide) (op_assign rfl (HF150.ev rfl)) ?_
        intro a151 HF152; clear HF150
        refine wpList_nil ?_
        refine gw_nx ⟨_, ?_, v + 1, tot + (cntL rs 1), (HF152.pick (t := 5) rfl (HF152.pick (t := 4) rfl (HF152.pick (t := 0) rfl (HF152.pick (t := 3) rfl HF152.nil)))), HO145.sel [0, 1] (by decide), ?_, ?_, rfl⟩
        · rw [hm63]; omega
        · omega
        · subst hv78; simp at ht ⊢; omega
      · skip
        have HF153 := HF77.conv (v' := .int .i64 2) (congrArg (Value.int .i64) hv78)
        clear HF77
        refine gw_ev HF153 (want_none rfl) rfl (by decide) (op_indexP (q := 2) Try.underlying58 gwsiz3 rfl (HF153.ev rfl) (HF153.ev rfl) (by decide) rfl) ?_
        intro a154 HF155; clear HF153
        refine gw_ev HF155 (want_none rfl) rfl (by decide) (op_load1 gwagg3 rfl (HF155.ev rfl) (blk_at (HO62.get 0 rfl) rfl)) ?_
        intro a156 HF157; clear HF155
        refine gw_ev HF157 (want_none rfl) rfl (by decide) (op_add rfl (HF157.ev rfl) (HF157.ev rfl) (by have hs := cnt_sum rs; have hb0 := cnt_b rs 0; have hb1 := cnt_b rs 1; have hb2 := cnt_b rs 2; have hb3 := cnt_b rs 3; have hb4 := cnt_b rs 4; have hb5 := cnt_b rs 5; have hb6 := cnt_b rs 6; have hb7 := cnt_b rs 7; subst hv78; simp at ht; omega)) ?_
        intro a158 HF159; clear HF157
        refine gw_ev HF159 (want_none rfl) rfl (by decide) (op_assign rfl (HF159.ev rfl)) ?_
        intro a160 HF161; clear HF159
        refine wpList_nil ?_
        refine gw_nx (hK73 _ _ ?_)
        refine gw_seq fun K162 hK162 => ?_
        refine gw_drawB HO62 (by kernel_rfl) (by kernel_rfl) fun w163 HO164 => ?_
        clear HO62
        refine gq_ev HF161 (want_none rfl) rfl (by decide) (fun wq hq => have HO := HO164.after hq; (op_move rfl (HF161.ev rfl))) ?_
        intro a165 HF166; clear HF161
        have HF167 := HF166.conv (v' := .int .i64 2) (congrArg (Value.int .i64) hv78)
        clear HF166
        refine gq_ev HF167 (want_none rfl) rfl (by decide) (fun wq hq => have HO := HO164.after hq; (op_indexP (q := 2) Try.underlying58 gwsiz3 rfl (HF167.ev rfl) (HF167.ev rfl) (by decide) rfl)) ?_
        intro a168 HF169; clear HF167
        refine gq_ev HF169 (want_none rfl) rfl (by decide) (fun wq hq => have HO := HO164.after hq; (op_load1 gwagg3 rfl (HF169.ev rfl) (blk_at (HO.get 0 rfl) rfl))) ?_
        intro a170 HF171; clear HF169
        refine gq_ev HF171 (want_none rfl) rfl (by decide) (fun wq hq => have HO := HO164.after hq; (op_move rfl (HF171.ev rfl))) ?_
        intro a172 HF173; clear HF171
        refine gq_ev HF173 (want_none rfl) rfl (by decide) (fun wq hq => have HO := HO164.after hq; (op_move rfl (HF173.ev rfl))) ?_
        intro a174 HF175; clear HF173
        refine gq_call HF175 (want_none rfl) rfl (by decide) (fun wq hq => have HO := HO164.after hq; (op_callL Try.func43 (by kernel_rfl) rfl rfl (ar_cons (HF175.ev rfl) (ar_cons (HF175.ev rfl) ar_nil)))) (fun wq hq => have HO := HO164.after hq; (GCount_.rcount_calls A0 c0_ rs v _ (Kd.C_below hr0 HO.below) hc0 (by omega) (by omega)).mono fun e w' h => ⟨h.1, below_then hq h.2⟩) ?_
        intro a176 HF177; clear HF175
        refine gq_ev HF177 (want_none rfl) rfl (by decide) (fun wq hq => have HO := HO164.after hq; (op_nei rfl (HF177.ev rfl) (HF177.ev rfl))) ?_
        intro a178 HF179; clear HF177
        have HF180 := HF179.lit (b := false) (by rw [hv78]; simp)
        clear HF179
        refine wpQuiet_nil ?_
        intro w181 hq
        have HO182 := HO164.after hq
        clear HO164 hq
        refine gw_nx (hK162 _ _ ?_)
        refine gw_cond HF180 rfl (fun hb183 => ?_) (fun hb183 => ?_)
        skip
        · cases hb183
        refine wp_skip ?_
        refine gw_blk ?_
        refine gw_nx (hK72 _ _ ?_)
        refine wp_region_lit ?_
        refine gw_ev HF180 (want_none rfl) rfl (by decide) (op_move rfl (HF180.ev rfl)) ?_
        intro a184 HF185; clear HF180
        refine gw_ev HF185 (want_none rfl) rfl (by decide) (op_add rfl (HF185.ev rfl) (ev_c _ _) (by omega)) ?_
        intro a186 HF187; clear HF185
        refine gw_ev HF187 (want_none rfl) rfl (by decide) (op_assign rfl (HF187.ev rfl)) ?_
        intro a188 HF189; clear HF187
        refine wpList_nil ?_
        refine gw_nx ⟨_, ?_, v + 1, tot + (cntL rs 2), (HF189.pick (t := 5) rfl (HF189.pick (t := 4) rfl (HF189.pick (t := 0) rfl (HF189.pick (t := 3) rfl HF189.nil)))), HO182.sel [0, 1] (by decide), ?_, ?_, rfl⟩
        · rw [hm63]; omega
        · omega
        · subst hv78; simp at ht ⊢; omega
      · skip
        have HF190 := HF77.conv (v' := .int .i64 3) (congrArg (Value.int .i64) hv78)
        clear HF77
        refine gw_ev HF190 (want_none rfl) rfl (by decide) (op_indexP (q := 3) Try.underlying58 gwsiz3 rfl (HF190.ev rfl) (HF190.ev rfl) (by decide) rfl) ?_
        intro a191 HF192; clear HF190
        refine gw_ev HF192 (want_none rfl) rfl (by decide) (op_load1 gwagg3 rfl (HF192.ev rfl) (blk_at (HO62.get 0 rfl) rfl)) ?_
        intro a193 HF194; clear HF192
        refine gw_ev HF194 (want_none rfl) rfl (by decide) (op_add rfl (HF194.ev rfl) (HF194.ev rfl) (by have hs := cnt_sum rs; have hb0 := cnt_b rs 0; have hb1 := cnt_b rs 1; have hb2 := cnt_b rs 2; have hb3 := cnt_b rs 3; have hb4 := cnt_b rs 4; have hb5 := cnt_b rs 5; have hb6 := cnt_b rs 6; have hb7 := cnt_b rs 7; subst hv78; simp at ht; omega)) ?_
        intro a195 HF196; clear HF194
        refine gw_ev HF196 (want_none rfl) rfl (by decide) (op_assign rfl (HF196.ev rfl)) ?_
        intro a197 HF198; clear HF196
        refine wpList_nil ?_
        refine gw_nx (hK73 _ _ ?_)
        refine gw_seq fun K199 hK199 => ?_
        refine gw_drawB HO62 (by kernel_rfl) (by kernel_rfl) fun w200 HO201 => ?_
        clear HO62
        refine gq_ev HF198 (want_none rfl) rfl (by decide) (fun wq hq => have HO := HO201.after hq; (op_move rfl (HF198.ev rfl))) ?_
        intro a202 HF203; clear HF198
        have HF204 := HF203.conv (v' := .int .i64 3) (congrArg (Value.int .i64) hv78)
        clear HF203
        refine gq_ev HF204 (want_none rfl) rfl (by decide) (fun wq hq => have HO := HO201.after hq; (op_indexP (q := 3) Try.underlying58 gwsiz3 rfl (HF204.ev rfl) (HF204.ev rfl) (by decide) rfl)) ?_
        intro a205 HF206; clear HF204
        refine gq_ev HF206 (want_none rfl) rfl (by decide) (fun wq hq => have HO := HO201.after hq; (op_load1 gwagg3 rfl (HF206.ev rfl) (blk_at (HO.get 0 rfl) rfl))) ?_
        intro a207 HF208; clear HF206
        refine gq_ev HF208 (want_none rfl) rfl (by decide) (fun wq hq => have HO := HO201.after hq; (op_move rfl (HF208.ev rfl))) ?_
        intro a209 HF210; clear HF208
        refine gq_ev HF210 (want_none rfl) rfl (by decide) (fun wq hq => have HO := HO201.after hq; (op_move rfl (HF210.ev rfl))) ?_
        intro a211 HF212; clear HF210
        refine gq_call HF212 (want_none rfl) rfl (by decide) (fun wq hq => have HO := HO201.after hq; (op_callL Try.func43 (by kernel_rfl) rfl rfl (ar_cons (HF212.ev rfl) (ar_cons (HF212.ev rfl) ar_nil)))) (fun wq hq => have HO := HO201.after hq; (GCount_.rcount_calls A0 c0_ rs v _ (Kd.C_below hr0 HO.below) hc0 (by omega) (by omega)).mono fun e w' h => ⟨h.1, below_then hq h.2⟩) ?_
        intro a213 HF214; clear HF212
        refine gq_ev HF214 (want_none rfl) rfl (by decide) (fun wq hq => have HO := HO201.after hq; (op_nei rfl (HF214.ev rfl) (HF214.ev rfl))) ?_
        intro a215 HF216; clear HF214
        have HF217 := HF216.lit (b := false) (by rw [hv78]; simp)
        clear HF216
        refine wpQuiet_nil ?_
        intro w218 hq
        have HO219 := HO201.after hq
        clear HO201 hq
        refine gw_nx (hK199 _ _ ?_)
        refine gw_cond HF217 rfl (fun hb220 => ?_) (fun hb220 => ?_)
        skip
        · cases hb220
        refine wp_skip ?_
        refine gw_blk ?_
        refine gw_nx (hK72 _ _ ?_)
        refine wp_region_lit ?_
        refine gw_ev HF217 (want_none rfl) rfl (by decide) (op_move rfl (HF217.ev rfl)) ?_
        intro a221 HF222; clear HF217
        refine gw_ev HF222 (want_none rfl) rfl (by decide) (op_add rfl (HF222.ev rfl) (ev_c _ _) (by omega)) ?_
        intro a223 HF224; clear HF222
        refine gw_ev HF224 (want_none rfl) rfl (by decide) (op_assign rfl (HF224.ev rfl)) ?_
        intro a225 HF226; clear HF224
        refine wpList_nil ?_
        refine gw_nx ⟨_, ?_, v + 1, tot + (cntL rs 3), (HF226.pick (t := 5) rfl (HF226.pick (t := 4) rfl (HF226.pick (t := 0) rfl (HF226.pick (t := 3) rfl HF226.nil)))), HO219.sel [0, 1] (by decide), ?_, ?_, rfl⟩
        · rw [hm63]; omega
        · omega
        · subst hv78; simp at ht ⊢; omega
      · skip
        have HF227 := HF77.conv (v' := .int .i64 4) (congrArg (Value.int .i64) hv78)
        clear HF77
        refine gw_ev HF227 (want_none rfl) rfl (by decide) (op_indexP (q := 4) Try.underlying58 gwsiz3 rfl (HF227.ev rfl) (HF227.ev rfl) (by decide) rfl) ?_
        intro a228 HF229; clear HF227
        refine gw_ev HF229 (want_none rfl) rfl (by decide) (op_load1 gwagg3 rfl (HF229.ev rfl) (blk_at (HO62.get 0 rfl) rfl)) ?_
        intro a230 HF231; clear HF229
        refine gw_ev HF231 (want_none rfl) rfl (by decide) (op_add rfl (HF231.ev rfl) (HF231.ev rfl) (by have hs := cnt_sum rs; have hb0 := cnt_b rs 0; have hb1 := cnt_b rs 1; have hb2 := cnt_b rs 2; have hb3 := cnt_b rs 3; have hb4 := cnt_b rs 4; have hb5 := cnt_b rs 5; have hb6 := cnt_b rs 6; have hb7 := cnt_b rs 7; subst hv78; simp at ht; omega)) ?_
        intro a232 HF233; clear HF231
        refine gw_ev HF233 (want_none rfl) rfl (by decide) (op_assign rfl (HF233.ev rfl)) ?_
        intro a234 HF235; clear HF233
        refine wpList_nil ?_
        refine gw_nx (hK73 _ _ ?_)
        refine gw_seq fun K236 hK236 => ?_
        refine gw_drawB HO62 (by kernel_rfl) (by kernel_rfl) fun w237 HO238 => ?_
        clear HO62
        refine gq_ev HF235 (want_none rfl) rfl (by decide) (fun wq hq => have HO := HO238.after hq; (op_move rfl (HF235.ev rfl))) ?_
        intro a239 HF240; clear HF235
        have HF241 := HF240.conv (v' := .int .i64 4) (congrArg (Value.int .i64) hv78)
        clear HF240
        refine gq_ev HF241 (want_none rfl) rfl (by decide) (fun wq hq => have HO := HO238.after hq; (op_indexP (q := 4) Try.underlying58 gwsiz3 rfl (HF241.ev rfl) (HF241.ev rfl) (by decide) rfl)) ?_
        intro a242 HF243; clear HF241
        refine gq_ev HF243 (want_none rfl) rfl (by decide) (fun wq hq => have HO := HO238.after hq; (op_load1 gwagg3 rfl (HF243.ev rfl) (blk_at (HO.get 0 rfl) rfl))) ?_
        intro a244 HF245; clear HF243
        refine gq_ev HF245 (want_none rfl) rfl (by decide) (fun wq hq => have HO := HO238.after hq; (op_move rfl (HF245.ev rfl))) ?_
        intro a246 HF247; clear HF245
        refine gq_ev HF247 (want_none rfl) rfl (by decide) (fun wq hq => have HO := HO238.after hq; (op_move rfl (HF247.ev rfl))) ?_
        intro a248 HF249; clear HF247
        refine gq_call HF249 (want_none rfl) rfl (by decide) (fun wq hq => have HO := HO238.after hq; (op_callL Try.func43 (by kernel_rfl) rfl rfl (ar_cons (HF249.ev rfl) (ar_cons (HF249.ev rfl) ar_nil)))) (fun wq hq => have HO := HO238.after hq; (GCount_.rcount_calls A0 c0_ rs v _ (Kd.C_below hr0 HO.below) hc0 (by omega) (by omega)).mono fun e w' h => ⟨h.1, below_then hq h.2⟩) ?_
        intro a250 HF251; clear HF249
        refine gq_ev HF251 (want_none rfl) rfl (by decide) (fun wq hq => have HO := HO238.after hq; (op_nei rfl (HF251.ev rfl) (HF251.ev rfl))) ?_
        intro a252 HF253; clear HF251
        have HF254 := HF253.lit (b := false) (by rw [hv78]; simp)
        clear HF253
        refine wpQuiet_nil ?_
        intro w255 hq
        have HO256 := HO238.after hq
        clear HO238 hq
        refine gw_nx (hK236 _ _ ?_)
        refine gw_cond HF254 rfl (fun hb257 => ?_) (fun hb257 => ?_)
        skip
        · cases hb257
        refine wp_skip ?_
        refine gw_blk ?_
        refine gw_nx (hK72 _ _ ?_)
        refine wp_region_lit ?_
        refine gw_ev HF254 (want_none rfl) rfl (by decide) (op_move rfl (HF254.ev rfl)) ?_
        intro a258 HF259; clear HF254
        refine gw_ev HF259 (want_none rfl) rfl (by decide) (op_add rfl (HF259.ev rfl) (ev_c _ _) (by omega)) ?_
        intro a260 HF261; clear HF259
        refine gw_ev HF261 (want_none rfl) rfl (by decide) (op_assign rfl (HF261.ev rfl)) ?_
        intro a262 HF263; clear HF261
        refine wpList_nil ?_
        refine gw_nx ⟨_, ?_, v + 1, tot + (cntL rs 4), (HF263.pick (t := 5) rfl (HF263.pick (t := 4) rfl (HF263.pick (t := 0) rfl (HF263.pick (t := 3) rfl HF263.nil)))), HO256.sel [0, 1] (by decide), ?_, ?_, rfl⟩
        · rw [hm63]; omega
        · omega
        · subst hv78; simp at ht ⊢; omega
      · skip
        have HF264 := HF77.conv (v' := .int .i64 5) (congrArg (Value.int .i64) hv78)
        clear HF77
        refine gw_ev HF264 (want_none rfl) rfl (by decide) (op_indexP (q := 5) Try.underlying58 gwsiz3 rfl (HF264.ev rfl) (HF264.ev rfl) (by decide) rfl) ?_
        intro a265 HF266; clear HF264
        refine gw_ev HF266 (want_none rfl) rfl (by decide) (op_load1 gwagg3 rfl (HF266.ev rfl) (blk_at (HO62.get 0 rfl) rfl)) ?_
        intro a267 HF268; clear HF266
        refine gw_ev HF268 (want_none rfl) rfl (by decide) (op_add rfl (HF268.ev rfl) (HF268.ev rfl) (by have hs := cnt_sum rs; have hb0 := cnt_b rs 0; have hb1 := cnt_b rs 1; have hb2 := cnt_b rs 2; have hb3 := cnt_b rs 3; have hb4 := cnt_b rs 4; have hb5 := cnt_b rs 5; have hb6 := cnt_b rs 6; have hb7 := cnt_b rs 7; subst hv78; simp at ht; omega)) ?_
        intro a269 HF270; clear HF268
        refine gw_ev HF270 (want_none rfl) rfl (by decide) (op_assign rfl (HF270.ev rfl)) ?_
        intro a271 HF272; clear HF270
        refine wpList_nil ?_
        refine gw_nx (hK73 _ _ ?_)
        refine gw_seq fun K273 hK273 => ?_
        refine gw_drawB HO62 (by kernel_rfl) (by kernel_rfl) fun w274 HO275 => ?_
        clear HO62
        refine gq_ev HF272 (want_none rfl) rfl (by decide) (fun wq hq => have HO := HO275.after hq; (op_move rfl (HF272.ev rfl))) ?_
        intro a276 HF277; clear HF272
        have HF278 := HF277.conv (v' := .int .i64 5) (congrArg (Value.int .i64) hv78)
        clear HF277
        refine gq_ev HF278 (want_none rfl) rfl (by decide) (fun wq hq => have HO := HO275.after hq; (op_indexP (q := 5) Try.underlying58 gwsiz3 rfl (HF278.ev rfl) (HF278.ev rfl) (by decide) rfl)) ?_
        intro a279 HF280; clear HF278
        refine gq_ev HF280 (want_none rfl) rfl (by decide) (fun wq hq => have HO := HO275.after hq; (op_load1 gwagg3 rfl (HF280.ev rfl) (blk_at (HO.get 0 rfl) rfl))) ?_
        intro a281 HF282; clear HF280
        refine gq_ev HF282 (want_none rfl) rfl (by decide) (fun wq hq => have HO := HO275.after hq; (op_move rfl (HF282.ev rfl))) ?_
        intro a283 HF284; clear HF282
        refine gq_ev HF284 (want_none rfl) rfl (by decide) (fun wq hq => have HO := HO275.after hq; (op_move rfl (HF284.ev rfl))) ?_
        intro a285 HF286; clear HF284
        refine gq_call HF286 (want_none rfl) rfl (by decide) (fun wq hq => have HO := HO275.after hq; (op_callL Try.func43 (by kernel_rfl) rfl rfl (ar_cons (HF286.ev rfl) (ar_cons (HF286.ev rfl) ar_nil)))) (fun wq hq => have HO := HO275.after hq; (GCount_.rcount_calls A0 c0_ rs v _ (Kd.C_below hr0 HO.below) hc0 (by omega) (by omega)).mono fun e w' h => ⟨h.1, below_then hq h.2⟩) ?_
        intro a287 HF288; clear HF286
        refine gq_ev HF288 (want_none rfl) rfl (by decide) (fun wq hq => have HO := HO275.after hq; (op_nei rfl (HF288.ev rfl) (HF288.ev rfl))) ?_
        intro a289 HF290; clear HF288
        have HF291 := HF290.lit (b := false) (by rw [hv78]; simp)
        clear HF290
        refine wpQuiet_nil ?_
        intro w292 hq
        have HO293 := HO275.after hq
        clear HO275 hq
        refine gw_nx (hK273 _ _ ?_)
        refine gw_cond HF291 rfl (fun hb294 => ?_) (fun hb294 => ?_)
        skip
        · cases hb294
        refine wp_skip ?_
        refine gw_blk ?_
        refine gw_nx (hK72 _ _ ?_)
        refine wp_region_lit ?_
        refine gw_ev HF291 (want_none rfl) rfl (by decide) (op_move rfl (HF291.ev rfl)) ?_
        intro a295 HF296; clear HF291
        refine gw_ev HF296 (want_none rfl) rfl (by decide) (op_add rfl (HF296.ev rfl) (ev_c _ _) (by omega)) ?_
        intro a297 HF298; clear HF296
        refine gw_ev HF298 (want_none rfl) rfl (by decide) (op_assign rfl (HF298.ev rfl)) ?_
        intro a299 HF300; clear HF298
        refine wpList_nil ?_
        refine gw_nx ⟨_, ?_, v + 1, tot + (cntL rs 5), (HF300.pick (t := 5) rfl (HF300.pick (t := 4) rfl (HF300.pick (t := 0) rfl (HF300.pick (t := 3) rfl HF300.nil)))), HO293.sel [0, 1] (by decide), ?_, ?_, rfl⟩
        · rw [hm63]; omega
        · omega
        · subst hv78; simp at ht ⊢; omega
      · skip
        have HF301 := HF77.conv (v' := .int .i64 6) (congrArg (Value.int .i64) hv78)
        clear HF77
        refine gw_ev HF301 (want_none rfl) rfl (by decide) (op_indexP (q := 6) Try.underlying58 gwsiz3 rfl (HF301.ev rfl) (HF301.ev rfl) (by decide) rfl) ?_
        intro a302 HF303; clear HF301
        refine gw_ev HF303 (want_none rfl) rfl (by decide) (op_load1 gwagg3 rfl (HF303.ev rfl) (blk_at (HO62.get 0 rfl) rfl)) ?_
        intro a304 HF305; clear HF303
        refine gw_ev HF305 (want_none rfl) rfl (by decide) (op_add rfl (HF305.ev rfl) (HF305.ev rfl) (by have hs := cnt_sum rs; have hb0 := cnt_b rs 0; have hb1 := cnt_b rs 1; have hb2 := cnt_b rs 2; have hb3 := cnt_b rs 3; have hb4 := cnt_b rs 4; have hb5 := cnt_b rs 5; have hb6 := cnt_b rs 6; have hb7 := cnt_b rs 7; subst hv78; simp at ht; omega)) ?_
        intro a306 HF307; clear HF305
        refine gw_ev HF307 (want_none rfl) rfl (by decide) (op_assign rfl (HF307.ev rfl)) ?_
        intro a308 HF309; clear HF307
        refine wpList_nil ?_
        refine gw_nx (hK73 _ _ ?_)
        refine gw_seq fun K310 hK310 => ?_
        refine gw_drawB HO62 (by kernel_rfl) (by kernel_rfl) fun w311 HO312 => ?_
        clear HO62
        refine gq_ev HF309 (want_none rfl) rfl (by decide) (fun wq hq => have HO := HO312.after hq; (op_move rfl (HF309.ev rfl))) ?_
        intro a313 HF314; clear HF309
        have HF315 := HF314.conv (v' := .int .i64 6) (congrArg (Value.int .i64) hv78)
        clear HF314
        refine gq_ev HF315 (want_none rfl) rfl (by decide) (fun wq hq => have HO := HO312.after hq; (op_indexP (q := 6) Try.underlying58 gwsiz3 rfl (HF315.ev rfl) (HF315.ev rfl) (by decide) rfl)) ?_
        intro a316 HF317; clear HF315
        refine gq_ev HF317 (want_none rfl) rfl (by decide) (fun wq hq => have HO := HO312.after hq; (op_load1 gwagg3 rfl (HF317.ev rfl) (blk_at (HO.get 0 rfl) rfl))) ?_
        intro a318 HF319; clear HF317
        refine gq_ev HF319 (want_none rfl) rfl (by decide) (fun wq hq => have HO := HO312.after hq; (op_move rfl (HF319.ev rfl))) ?_
        intro a320 HF321; clear HF319
        refine gq_ev HF321 (want_none rfl) rfl (by decide) (fun wq hq => have HO := HO312.after hq; (op_move rfl (HF321.ev rfl))) ?_
        intro a322 HF323; clear HF321
        refine gq_call HF323 (want_none rfl) rfl (by decide) (fun wq hq => have HO := HO312.after hq; (op_callL Try.func43 (by kernel_rfl) rfl rfl (ar_cons (HF323.ev rfl) (ar_cons (HF323.ev rfl) ar_nil)))) (fun wq hq => have HO := HO312.after hq; (GCount_.rcount_calls A0 c0_ rs v _ (Kd.C_below hr0 HO.below) hc0 (by omega) (by omega)).mono fun e w' h => ⟨h.1, below_then hq h.2⟩) ?_
        intro a324 HF325; clear HF323
        refine gq_ev HF325 (want_none rfl) rfl (by decide) (fun wq hq => have HO := HO312.after hq; (op_nei rfl (HF325.ev rfl) (HF325.ev rfl))) ?_
        intro a326 HF327; clear HF325
        have HF328 := HF327.lit (b := false) (by rw [hv78]; simp)
        clear HF327
        refine wpQuiet_nil ?_
        intro w329 hq
        have HO330 := HO312.after hq
        clear HO312 hq
        refine gw_nx (hK310 _ _ ?_)
        refine gw_cond HF328 rfl (fun hb331 => ?_) (fun hb331 => ?_)
        skip
        · cases hb331
        refine wp_skip ?_
        refine gw_blk ?_
        refine gw_nx (hK72 _ _ ?_)
        refine wp_region_lit ?_
        refine gw_ev HF328 (want_none rfl) rfl (by decide) (op_move rfl (HF328.ev rfl)) ?_
        intro a332 HF333; clear HF328
        refine gw_ev HF333 (want_none rfl) rfl (by decide) (op_add rfl (HF333.ev rfl) (ev_c _ _) (by omega)) ?_
        intro a334 HF335; clear HF333
        refine gw_ev HF335 (want_none rfl) rfl (by decide) (op_assign rfl (HF335.ev rfl)) ?_
        intro a336 HF337; clear HF335
        refine wpList_nil ?_
        refine gw_nx ⟨_, ?_, v + 1, tot + (cntL rs 6), (HF337.pick (t := 5) rfl (HF337.pick (t := 4) rfl (HF337.pick (t := 0) rfl (HF337.pick (t := 3) rfl HF337.nil)))), HO330.sel [0, 1] (by decide), ?_, ?_, rfl⟩
        · rw [hm63]; omega
        · omega
        · subst hv78; simp at ht ⊢; omega
      · skip
        have HF338 := HF77.conv (v' := .int .i64 7) (congrArg (Value.int .i64) hv78)
        clear HF77
        refine gw_ev HF338 (want_none rfl) rfl (by decide) (op_indexP (q := 7) Try.underlying58 gwsiz3 rfl (HF338.ev rfl) (HF338.ev rfl) (by decide) rfl) ?_
        intro a339 HF340; clear HF338
        refine gw_ev HF340 (want_none rfl) rfl (by decide) (op_load1 gwagg3 rfl (HF340.ev rfl) (blk_at (HO62.get 0 rfl) rfl)) ?_
        intro a341 HF342; clear HF340
        refine gw_ev HF342 (want_none rfl) rfl (by decide) (op_add rfl (HF342.ev rfl) (HF342.ev rfl) (by have hs := cnt_sum rs; have hb0 := cnt_b rs 0; have hb1 := cnt_b rs 1; have hb2 := cnt_b rs 2; have hb3 := cnt_b rs 3; have hb4 := cnt_b rs 4; have hb5 := cnt_b rs 5; have hb6 := cnt_b rs 6; have hb7 := cnt_b rs 7; subst hv78; simp at ht; omega)) ?_
        intro a343 HF344; clear HF342
        refine gw_ev HF344 (want_none rfl) rfl (by decide) (op_assign rfl (HF344.ev rfl)) ?_
        intro a345 HF346; clear HF344
        refine wpList_nil ?_
        refine gw_nx (hK73 _ _ ?_)
        refine gw_seq fun K347 hK347 => ?_
        refine gw_drawB HO62 (by kernel_rfl) (by kernel_rfl) fun w348 HO349 => ?_
        clear HO62
        refine gq_ev HF346 (want_none rfl) rfl (by decide) (fun wq hq => have HO := HO349.after hq; (op_move rfl (HF346.ev rfl))) ?_
        intro a350 HF351; clear HF346
        have HF352 := HF351.conv (v' := .int .i64 7) (congrArg (Value.int .i64) hv78)
        clear HF351
        refine gq_ev HF352 (want_none rfl) rfl (by decide) (fun wq hq => have HO := HO349.after hq; (op_indexP (q := 7) Try.underlying58 gwsiz3 rfl (HF352.ev rfl) (HF352.ev rfl) (by decide) rfl)) ?_
        intro a353 HF354; clear HF352
        refine gq_ev HF354 (want_none rfl) rfl (by decide) (fun wq hq => have HO := HO349.after hq; (op_load1 gwagg3 rfl (HF354.ev rfl) (blk_at (HO.get 0 rfl) rfl))) ?_
        intro a355 HF356; clear HF354
        refine gq_ev HF356 (want_none rfl) rfl (by decide) (fun wq hq => have HO := HO349.after hq; (op_move rfl (HF356.ev rfl))) ?_
        intro a357 HF358; clear HF356
        refine gq_ev HF358 (want_none rfl) rfl (by decide) (fun wq hq => have HO := HO349.after hq; (op_move rfl (HF358.ev rfl))) ?_
        intro a359 HF360; clear HF358
        refine gq_call HF360 (want_none rfl) rfl (by decide) (fun wq hq => have HO := HO349.after hq; (op_callL Try.func43 (by kernel_rfl) rfl rfl (ar_cons (HF360.ev rfl) (ar_cons (HF360.ev rfl) ar_nil)))) (fun wq hq => have HO := HO349.after hq; (GCount_.rcount_calls A0 c0_ rs v _ (Kd.C_below hr0 HO.below) hc0 (by omega) (by omega)).mono fun e w' h => ⟨h.1, below_then hq h.2⟩) ?_
        intro a361 HF362; clear HF360
        refine gq_ev HF362 (want_none rfl) rfl (by decide) (fun wq hq => have HO := HO349.after hq; (op_nei rfl (HF362.ev rfl) (HF362.ev rfl))) ?_
        intro a363 HF364; clear HF362
        have HF365 := HF364.lit (b := false) (by rw [hv78]; simp)
        clear HF364
        refine wpQuiet_nil ?_
        intro w366 hq
        have HO367 := HO349.after hq
        clear HO349 hq
        refine gw_nx (hK347 _ _ ?_)
        refine gw_cond HF365 rfl (fun hb368 => ?_) (fun hb368 => ?_)
        skip
        · cases hb368
        refine wp_skip ?_
        refine gw_blk ?_
        refine gw_nx (hK72 _ _ ?_)
        refine wp_region_lit ?_
        refine gw_ev HF365 (want_none rfl) rfl (by decide) (op_move rfl (HF365.ev rfl)) ?_
        intro a369 HF370; clear HF365
        refine gw_ev HF370 (want_none rfl) rfl (by decide) (op_add rfl (HF370.ev rfl) (ev_c _ _) (by omega)) ?_
        intro a371 HF372; clear HF370
        refine gw_ev HF372 (want_none rfl) rfl (by decide) (op_assign rfl (HF372.ev rfl)) ?_
        intro a373 HF374; clear HF372
        refine wpList_nil ?_
        refine gw_nx ⟨_, ?_, v + 1, tot + (cntL rs 7), (HF374.pick (t := 5) rfl (HF374.pick (t := 4) rfl (HF374.pick (t := 0) rfl (HF374.pick (t := 3) rfl HF374.nil)))), HO367.sel [0, 1] (by decide), ?_, ?_, rfl⟩
        · rw [hm63]; omega
        · omega
        · subst hv78; simp at ht ⊢; omega
    · skip
      have HF375 := HF69.subst_ (d := 15) (b := false) rfl hb70
      clear HF69
      (try simp only [decide_eq_true_eq, decide_eq_false_iff_not, Bool.not_eq_true', Bool.not_eq_false', Bool.not_eq_true, Bool.not_eq_false, ne_eq, Decidable.not_not, Int.not_lt, Int.not_le, not_true_eq_false, not_false_eq_true, bne_iff_ne, beq_iff_eq, bne_eq_false_iff_eq, beq_eq_false_iff_ne] at hb70)
      refine wp_exit ?_
      refine gw_thx ?_
      refine gw_thx ?_
      refine gw_in ?_
      refine gw_nx (hK53 _ _ ?_)
      refine gw_seq fun K376 hK376 => ?_
      refine wp_region_lit ?_
      refine gw_ev HF375 (want_none rfl) rfl (by decide) (op_move rfl (HF375.ev rfl)) ?_
      intro a377 HF378; clear HF375
      refine gw_ev HF378 (want_none rfl) rfl (by decide) (op_move rfl (HF378.ev rfl)) ?_
      intro a379 HF380; clear HF378
      refine gw_ev HF380 (want_none rfl) rfl (by decide) (op_len Try.underlying57 rfl (HF380.ev rfl)) ?_
      intro a381 HF382; clear HF380
      refine gw_ev HF382 (want_none rfl) rfl (by decide) (op_eqi rfl (HF382.ev rfl) (HF382.ev rfl)) ?_
      intro a383 HF384; clear HF382
      have HF385 := HF384.lit (b := true) (by have hv8 : v = 8 := (by omega); subst hv8; simp at ht; have := cnt_sum rs; rw [decide_eq_true_eq]; omega)
      clear HF384
      refine gw_ev HF385 (want_none rfl) rfl (by decide) (op_assign rfl (HF385.ev rfl)) ?_
      intro a386 HF387; clear HF385
      refine wpList_nil ?_
      refine gw_nx (hK376 _ _ ?_)
      refine wp_ret ?_
      refine gw_ret1 HF387 rfl rfl ?_
      exact ⟨rfl, HO62.below⟩
end GTraceCounts_
open Classical in
noncomputable def colloquylaw18_TraceCounts.f (l0 : List S61) : Option Bool := if (l0.length ≤ 9223372036854775807) then some true else none
theorem colloquylaw18_TraceCounts.calls (A0 : Option Addr) (c0 : Nat) (l0 : List S61) (r : Bool) (w : World) (hr0 : Kd.C k61 w A0 l0.length l0) (hc0 : l0.length ≤ c0) (h : colloquylaw18_TraceCounts.f l0 = some r) :
    Calls Try.prog 10 #[(.slice A0 l0.length c0)] w fun e w' => e = .returned (.bool r) ∧ Below w.heap.size w w' := by
  unfold colloquylaw18_TraceCounts.f at h
  split at h
  · cases h; rename_i hh; exact GTraceCounts_.TraceCounts_calls A0 c0 l0 w hr0 hc0 hh
  · cases h
end Go.Proofs.Ytmlemnfleicnfaa.PA
