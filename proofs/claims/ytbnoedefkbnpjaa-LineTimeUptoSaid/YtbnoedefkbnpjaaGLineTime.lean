/- LineTime. Printed by a program of this session; Lean checks it. -/
import Derived.Test.YtbnoedefkbnpjaaGLineAlive
import Derived.Test.YtbnoedefkbnpjaaHLineT
namespace Go.Proofs.Ytbnoedefkbnpjaa.PA
open Go.RowKit Go.Proofs.YtbnoedefkbnpjaaW.PrintWords Go.Proofs.YtbnoedefkbnpjaaW.PrintLast Go.Proofs.YtbnoedefkbnpjaaW.PrintMore
set_option linter.unusedVariables false
set_option linter.unusedSimpArgs false
namespace GLineTime_
theorem gwagg2 : ∀ w, (isAgg 2).run Try.prog w = .ok false w := fun _ => by kernel_rfl
theorem gwagg46 : ∀ w, (isAgg 46).run Try.prog w = .ok false w := fun _ => by kernel_rfl
theorem gwagg48 : ∀ w, (isAgg 48).run Try.prog w = .ok true w := fun _ => by kernel_rfl
theorem gwfld48_0 (g off : Nat) : ∀ w, (Instr.fieldAt 48 (.pointer (some ⟨g, off, none⟩)) 0).run Try.prog w = .ok (.pointer (some ⟨g, off + 0, none⟩)) w := fun _ => by kernel_rfl
theorem gwinfo5 : (Try.prog.info? 5).map (fun i => (i.zero, i.size, i.bytes)) = some (some (.int .u8 0), 1, 1) := by kernel_rfl
theorem gwsiz2 : ∀ w, (sizeOf 2).run Try.prog w = .ok 1 w := fun _ => by kernel_rfl
theorem gwsiz48 : ∀ w, (sizeOf 48).run Try.prog w = .ok 3 w := fun _ => by kernel_rfl
set_option maxHeartbeats 4000000 in
set_option maxRecDepth 100000 in
theorem LineTime_calls (A0_0 : Option Addr) (c0_0 : Nat) (chs : List S52) (en wt : Int) (A1 : Option Addr) (c1 : Nat) (limits : List Int) (w : World) (hr0 : Kd.C k52 w A0_0 chs.length chs) (hc0 : chs.length ≤ c0_0) (hr1 : Kd.C (Kd.int .i64) w A1 limits.length limits) (hc1 : limits.length ≤ c1) (hlen : chs.length ≤ 4398046511102) (hz : ∀ x ∈ chs, x.f1.length ≤ 140737488351232) (hsum : (chs.map (fun x => x.f1.length)).sum ≤ 1048576) (hs1 : limits.length ≤ 9223372036854775807) :
    Calls Try.prog 7 #[.agg #[.slice A0_0 chs.length c0_0, .int .i64 en, .int .i64 wt], .slice A1 limits.length c1] w fun e w' => e = .returned (.bool true) ∧ Below w.heap.size w w' := by
  refine gw_start (N := 129) (vs := [.agg #[.slice A0_0 chs.length c0_0, .int .i64 en, .int .i64 wt], .slice A1 limits.length c1]) Try.func7 rfl rfl (by simp) fun a HF HO => ?_
  replace HO : Own w w [] := HO
  refine gw_seq fun K1 hK1 => ?_
  refine wp_region_lit ?_
  refine gw_new HF HO (want_none rfl) rfl (by decide) (op_box rfl (HF.ev rfl)) ?_
  intro g2 a3 w4 HF5 HO6; clear HF HO
  have HO7 : Own w w4 [Chunk.blk g2 (.cells #[.slice A0_0 chs.length c0_0, .int .i64 en, .int .i64 wt] 48 (0, 0))] := HO6
  clear HO6
  refine gw_ev HF5 (want_none rfl) rfl (by decide) (op_assign rfl (ev_c _ _)) ?_
  intro a8 HF9; clear HF5
  refine wpList_nil ?_
  refine gw_nx (hK1 _ _ ?_)
  refine gw_seq fun K10 hK10 => ?_
  refine gx_draw (M := [Chunk.blk g2 (.cells #[.slice A0_0 chs.length c0_0, .int .i64 en, .int .i64 wt] 48 (0, 0))]) (fun j_ => false) HO7 (by kernel_rfl) fun w11 HO12 => ?_
  clear HO7
  refine gx_take 0 rfl (by kernel_rfl) HF9 (by exact HO12.sel [0] (by decide)) (want_none rfl) rfl (by decide) (fun wq HO => (op_loadn gwagg48 gwsiz48 rfl (HF9.ev rfl) (HO.get 0 rfl) rfl rfl)) ?_
  intro a13 HF14; clear HF9
  refine gx_take 2 rfl (by kernel_rfl) HF14 (by exact HO12.sel [0] (by decide)) (want_none rfl) rfl (by decide) (fun wq HO => (op_loadn gwagg48 gwsiz48 rfl (HF14.ev rfl) (HO.get 0 rfl) rfl rfl)) ?_
  intro a15 HF16; clear HF14
  refine gx_step 1 rfl (by kernel_rfl) ?_
  refine gw_call HF16 (want_none rfl) rfl (by decide) (op_callL Try.func22 (by kernel_rfl) rfl rfl (ar_cons (HF16.ev rfl) ar_nil)) (GLine_.open_calls w.heap.size A0_0 c0_0 chs en wt _ (Kd.C_below hr0 HO12.below) hc0 (by (first | omega | ((try simp only [List.length_append, List.length_take, List.length_drop, List.length_nil, List.length_cons, List.length_set] at *); omega))) hz) ?_
  rintro e23 w24 ⟨l17, A18, c19, S20, rfl, hb25⟩
  refine ⟨_, rfl, fun a26 HF27 => ?_⟩
  have HO28 := HO12.fresh hb25
  clear HF16 HO12 hb25
  have HO30 : Own w w24 [Chunk.blk l17 (.cells #[.slice A18 chs.length c19, .int .i64 en, .int .i64 wt, .int .i64 0, .int .i64 0, .int .i64 0, .slice none (([] : List Int).length) 0] 83 (0, 0)), Chunk.view k52 S20 A18 chs.length c19 chs, Chunk.row (Kd.int .u8) 5 w.heap.size (fun _ => False) (.slice none (([] : List Int).length) 0) ([] : List Int), Chunk.blk g2 (.cells #[.slice A0_0 chs.length c0_0, .int .i64 en, .int .i64 wt] 48 (0, 0))] := HO28
  clear HO28
  refine gx_on (i := 1) (B := (fun j_ => false)) (M := [Chunk.blk g2 (.cells #[.slice A0_0 chs.length c0_0, .int .i64 en, .int .i64 wt] 48 (0, 0))]) (fun _ => (by exact HO30.sel [3] (by decide))) ?_
  refine gx_step 3 rfl (by kernel_rfl) ?_
  refine gw_call HF27 (want_none rfl) rfl (by decide) (op_callL Try.func22 (by kernel_rfl) rfl rfl (ar_cons (HF27.ev rfl) ar_nil)) (GLine_.open_calls w.heap.size A0_0 c0_0 chs en wt _ (Kd.C_below hr0 HO30.below) hc0 (by (first | omega | ((try simp only [List.length_append, List.length_take, List.length_drop, List.length_nil, List.length_cons, List.length_set] at *); omega))) hz) ?_
  rintro e37 w38 ⟨l31, A32, c33, S34, rfl, hb39⟩
  refine ⟨_, rfl, fun a40 HF41 => ?_⟩
  have HO42 := HO30.fresh hb39
  clear HF27 HO30 hb39
  have HO44 : Own w w38 [Chunk.blk l31 (.cells #[.slice A32 chs.length c33, .int .i64 en, .int .i64 wt, .int .i64 0, .int .i64 0, .int .i64 0, .slice none (([] : List Int).length) 0] 83 (0, 0)), Chunk.view k52 S34 A32 chs.length c33 chs, Chunk.row (Kd.int .u8) 5 w.heap.size (fun _ => False) (.slice none (([] : List Int).length) 0) ([] : List Int), Chunk.blk l17 (.cells #[.slice A18 chs.length c19, .int .i64 en, .int .i64 wt, .int .i64 0, .int .i64 0, .int .i64 0, .slice none (([] : List Int).length) 0] 83 (0, 0)), Chunk.view k52 S20 A18 chs.length c19 chs, Chunk.row (Kd.int .u8) 5 w.heap.size (fun _ => False) (.slice none (([] : List Int).length) 0) ([] : List Int), Chunk.blk g2 (.cells #[.slice A0_0 chs.length c0_0, .int .i64 en, .int .i64 wt] 48 (0, 0))] := HO42
  clear HO42
  refine gx_on (i := 3) (B := (fun j_ => false)) (M := [Chunk.blk g2 (.cells #[.slice A0_0 chs.length c0_0, .int .i64 en, .int .i64 wt] 48 (0, 0))]) (fun _ => (by exact HO44.sel [6] (by decide))) ?_
  refine gx_take 4 rfl (by kernel_rfl) HF41 (by exact HO44.sel [6] (by decide)) (want_none rfl) rfl (by decide) (fun wq HO => (op_assign rfl (HF41.ev rfl))) ?_
  intro a45 HF46; clear HF41
  refine gx_take 5 rfl (by kernel_rfl) HF46 (by exact HO44.sel [6] (by decide)) (want_none rfl) rfl (by decide) (fun wq HO => (op_assign rfl (HF46.ev rfl))) ?_
  intro a47 HF48; clear HF46
  refine gx_done (by kernel_rfl) ?_
  refine gw_nx (hK10 _ _ ?_)
  refine gw_seq fun K49 hK49 => ?_
  refine gw_seq fun K50 hK50 => ?_
  refine wp_region_lit ?_
  refine gw_ev HF48 (want_none rfl) rfl (by decide) (op_move rfl (HF48.ev rfl)) ?_
  intro a51 HF52; clear HF48
  refine gw_ev HF52 (want_none rfl) rfl (by decide) (op_eqp_nil Try.underlying49 rfl (HF52.ev rfl)) ?_
  intro a53 HF54; clear HF52
  refine gw_ev HF54 (want_none rfl) rfl (by decide) (op_move rfl (HF54.ev rfl)) ?_
  intro a55 HF56; clear HF54
  refine gw_ev HF56 (want_yes HF56 rfl rfl rfl rfl) rfl (by decide) (op_move rfl (HF56.ev rfl)) ?_
  intro a57 HF58; clear HF56
  refine gw_ev HF58 (want_yes HF58 rfl rfl rfl rfl) rfl (by decide) (op_eqp_nil Try.underlying49 rfl (HF58.ev rfl)) ?_
  intro a59 HF60; clear HF58
  refine gw_ev HF60 (want_none rfl) rfl (by decide) (op_pick_f rfl (HF60.ev rfl) (HF60.ev rfl)) ?_
  intro a61 HF62; clear HF60
  refine gw_ev HF62 (want_none rfl) rfl (by decide) (op_move rfl (HF62.ev rfl)) ?_
  intro a63 HF64; clear HF62
  refine gw_call HF64 (want_yes HF64 rfl rfl rfl rfl) rfl (by decide) (op_callL Try.func23 (by kernel_rfl) rfl rfl ar_nil) (GLineAlive_.alive_calls _) ?_
  rintro e65 w66 ⟨rfl, hb67⟩
  refine ⟨_, rfl, fun a68 HF69 => ?_⟩
  have HO70 := HO44.after hb67
  clear HF64 HO44 hb67
  refine gw_ev HF69 (want_yes HF69 rfl rfl rfl rfl) rfl (by decide) (op_not rfl (HF69.ev rfl)) ?_
  intro a72 HF73; clear HF69
  refine gw_ev HF73 (want_none rfl) rfl (by decide) (op_pick_f rfl (HF73.ev rfl) (HF73.ev rfl)) ?_
  intro a74 HF75; clear HF73
  refine wpList_nil ?_
  refine gw_nx (hK50 _ _ ?_)
  refine gw_cond HF75 rfl (fun hb76 => ?_) (fun hb76 => ?_)
  skip
  · cases hb76
  refine wp_skip ?_
  refine gw_nx (hK49 _ _ ?_)
  refine gw_seq fun K77 hK77 => ?_
  refine wp_region_lit ?_
  refine gw_lit (enc := Value.int .u8) (fun _ => rfl) (xs := ([] : List Int)) (e := 5) HF75 HO70 (want_none rfl) rfl (by decide) (op_bslice (by kernel_rfl) rfl pt_nil) (by simp) ?_
  intro A78 S79 a80 w81 HF82 HO83; clear HF75 HO70
  have HO84 : Own w w81 [Chunk.row (Kd.int .u8) 5 w.heap.size S79 (.slice A78 ((([] : List Int)).length) ((([] : List Int)).length)) ([] : List Int), Chunk.blk l31 (.cells #[.slice A32 chs.length c33, .int .i64 en, .int .i64 wt, .int .i64 0, .int .i64 0, .int .i64 0, .slice none (([] : List Int).length) 0] 83 (0, 0)), Chunk.view k52 S34 A32 chs.length c33 chs, Chunk.row (Kd.int .u8) 5 w.heap.size (fun _ => False) (.slice none (([] : List Int).length) 0) ([] : List Int), Chunk.blk l17 (.cells #[.slice A18 chs.length c19, .int .i64 en, .int .i64 wt, .int .i64 0, .int .i64 0, .int .i64 0, .slice none (([] : List Int).length) 0] 83 (0, 0)), Chunk.view k52 S20 A18 chs.length c19 chs, Chunk.row (Kd.int .u8) 5 w.heap.size (fun _ => False) (.slice none (([] : List Int).length) 0) ([] : List Int), Chunk.blk g2 (.cells #[.slice A0_0 chs.length c0_0, .int .i64 en, .int .i64 wt] 48 (0, 0))] := HO83
  clear HO83
  refine gw_ev HF82 (want_none rfl) rfl (by decide) (op_assign rfl (HF82.ev rfl)) ?_
  intro a85 HF86; clear HF82
  refine wpList_nil ?_
  refine gw_nx (hK77 _ _ ?_)
  refine gw_seq fun K87 hK87 => ?_
  refine wp_region_lit ?_
  refine gw_ev HF86 (want_none rfl) rfl (by decide) (op_assign rfl (ev_c _ _)) ?_
  intro a88 HF89; clear HF86
  refine wpList_nil ?_
  refine gw_nx (hK87 _ _ ?_)
  refine gw_seq fun K90 hK90 => ?_
  refine gw_seq fun K91 hK91 => ?_
  refine wp_region_lit ?_
  refine gw_ev HF89 (want_none rfl) rfl (by decide) (op_move rfl (HF89.ev rfl)) ?_
  intro a92 HF93; clear HF89
  refine gw_ev HF93 (want_none rfl) rfl (by decide) (op_len Try.underlying57 rfl (HF93.ev rfl)) ?_
  intro a94 HF95; clear HF93
  refine gw_ev HF95 (want_none rfl) rfl (by decide) (op_move rfl (ev_c _ _)) ?_
  intro a96 HF97; clear HF95
  refine wpList_nil ?_
  refine gw_nx (hK91 _ _ ?_)
  refine wp_block ?_
  refine gw_loop (fun m_ a_ w_ => ∃ (i : Int) (mo : Int) (atz : Int) (nowz : Int) (lastz : Int) (alz : List Int) (Alz : Option Addr) (calz : Nat) (Slz : Nat → Prop), Fr 129 a_ [(38, .int .i64 i), (7, .slice Alz alz.length calz), (8, .int .i64 mo), (2, .pointer (some ⟨g2, 0, none⟩)), (5, .pointer (some ⟨l17, 0, none⟩)), (6, .pointer (some ⟨l31, 0, none⟩)), (36, .slice A1 limits.length c1), (37, .int .i64 (limits.length : Int))] ∧ Own w w_ [Chunk.row (Kd.int .u8) 5 w.heap.size Slz (.slice Alz alz.length calz) alz, Chunk.blk l31 (.cells #[.slice A32 chs.length c33, .int .i64 en, .int .i64 wt, .int .i64 0, .int .i64 0, .int .i64 0, .slice none (([] : List Int).length) 0] 83 (0, 0)), Chunk.view k52 S34 A32 chs.length c33 chs, Chunk.row (Kd.int .u8) 5 w.heap.size (fun _ => False) (.slice none (([] : List Int).length) 0) ([] : List Int), Chunk.blk l17 (.cells #[.slice A18 chs.length c19, .int .i64 en, .int .i64 wt, .int .i64 atz, .int .i64 nowz, .int .i64 lastz, .slice none (([] : List Int).length) 0] 83 (0, 0)), Chunk.view k52 S20 A18 chs.length c19 chs, Chunk.row (Kd.int .u8) 5 w.heap.size (fun _ => False) (.slice none (([] : List Int).length) 0) ([] : List Int), Chunk.blk g2 (.cells #[.slice A0_0 chs.length c0_0, .int .i64 en, .int .i64 wt] 48 (0, 0))] ∧ (0 ≤ i ∧ i ≤ limits.length) ∧ (0 ≤ atz ∧ atz ≤ chs.length) ∧ (0 ≤ lastz ∧ lastz ≤ 1000000 * atz) ∧ (Reach chs atz nowz lastz alz mo) ∧ (0 ≤ mo) ∧ m_ = (limits.length - i.toNat)) ((limits.length - (0 : Int).toNat)) ?_ ?_
  · refine ⟨0, 0, 0, 0, 0, [], A78, _, _, (HF97.pick (t := 38) rfl (HF97.pick (t := 7) rfl (HF97.pick (t := 8) rfl (HF97.pick (t := 2) rfl (HF97.pick (t := 5) rfl (HF97.pick (t := 6) rfl (HF97.pick (t := 36) rfl (HF97.pick (t := 37) rfl HF97.nil)))))))), HO84.sel [0, 1, 2, 3, 4, 5, 6, 7] (by decide), ?_, ?_, ?_, ?_, ?_, rfl⟩
    · (first | omega | ((try simp only [List.length_append, List.length_take, List.length_drop, List.length_nil, List.length_cons, List.length_set] at *); omega))
    · (first | omega | ((try simp only [List.length_append, List.length_take, List.length_drop, List.length_nil, List.length_cons, List.length_set] at *); omega))
    · (first | omega | ((try simp only [List.length_append, List.length_take, List.length_drop, List.length_nil, List.length_cons, List.length_set] at *); omega))
    · exact ⟨by simp [lastL], by simp [bytesL], by (first | omega | ((try simp only [List.length_append, List.length_take, List.length_drop, List.length_nil, List.length_cons, List.length_set] at *); omega)), by (first | omega | ((try simp only [List.length_append, List.length_take, List.length_drop, List.length_nil, List.length_cons, List.length_set] at *); omega)), by (first | omega | ((try simp only [List.length_append, List.length_take, List.length_drop, List.length_nil, List.length_cons, List.length_set] at *); omega))⟩
    · (first | omega | ((try simp only [List.length_append, List.length_take, List.length_drop, List.length_nil, List.length_cons, List.length_set] at *); omega))
  · rintro m99 a100 w101 ⟨i, mo, atz, nowz, lastz, alz, Alz, calz, Slz, HF102, HO103, hiz, haz, hlz, hrrz, hmo, hm104⟩
    refine gw_seq fun K105 hK105 => ?_
    refine wp_region_lit ?_
    refine gw_ev HF102 (want_none rfl) rfl (by decide) (op_lss rfl (HF102.ev rfl) (HF102.ev rfl)) ?_
    intro a106 HF107; clear HF102
    refine wpList_nil ?_
    refine gw_nx (hK105 _ _ ?_)
    refine gw_seq fun K108 hK108 => ?_
    refine gw_cond HF107 rfl (fun hb109 => ?_) (fun hb109 => ?_)
    · skip
      have HF110 := HF107.subst_ (d := 39) (b := true) rfl hb109
      clear HF107
      (try simp only [decide_eq_true_eq, decide_eq_false_iff_not, Bool.not_eq_true', Bool.not_eq_false', Bool.not_eq_true, Bool.not_eq_false, ne_eq, Decidable.not_not, Int.not_lt, Int.not_le, not_true_eq_false, not_false_eq_true, bne_iff_ne, beq_iff_eq, bne_eq_false_iff_eq, beq_eq_false_iff_ne] at hb109)
      refine wp_skip ?_
      refine gw_nx (hK108 _ _ ?_)
      refine gw_seq fun K111 hK111 => ?_
      refine wp_block ?_
      refine gw_seq fun K112 hK112 => ?_
      refine wp_region_lit ?_
      refine gw_ev HF110 (want_none rfl) rfl (by decide) (op_move rfl (HF110.ev rfl)) ?_
      intro a113 HF114; clear HF110
      obtain ⟨ad115, cs118, hA116, hl119, hK120, hc117⟩ := Kd.C_get hr1 (0 : Int) i (by (first | omega | ((try simp only [List.length_append, List.length_take, List.length_drop, List.length_nil, List.length_cons, List.length_set] at *); omega))) (by (first | omega | ((try simp only [List.length_append, List.length_take, List.length_drop, List.length_nil, List.length_cons, List.length_set] at *); omega)))
      obtain rfl := id hK120
      clear hl119
      refine gw_ev HF114 (want_none rfl) rfl (by decide) (op_index Try.underlying57 gwsiz2 rfl (HF114.ev rfl) (HF114.ev rfl) hA116 (⟨by (first | omega | ((try simp only [List.length_append, List.length_take, List.length_drop, List.length_nil, List.length_cons, List.length_set] at *); omega)), by (first | omega | ((try simp only [List.length_append, List.length_take, List.length_drop, List.length_nil, List.length_cons, List.length_set] at *); omega))⟩)) ?_
      intro a121 HF122; clear HF114
      refine gw_ev HF122 (want_none rfl) rfl (by decide) (op_load1 gwagg2 rfl (HF122.ev rfl) (HO103.cell0 (at0 hc117))) ?_
      intro a123 HF124; clear HF122
      refine gw_ev HF124 (want_none rfl) rfl (by decide) (op_assign rfl (HF124.ev rfl)) ?_
      intro a125 HF126; clear HF124
      refine gw_ev HF126 (want_none rfl) rfl (by decide) (op_assign rfl (HF126.ev rfl)) ?_
      intro a127 HF128; clear HF126
      refine wpList_nil ?_
      refine gw_nx (hK112 _ _ ?_)
      refine gw_seq fun K129 hK129 => ?_
      refine gw_seq fun K130 hK130 => ?_
      refine wp_region_lit ?_
      refine gw_ev HF128 (want_none rfl) rfl (by decide) (op_move rfl (HF128.ev rfl)) ?_
      intro a131 HF132; clear HF128
      refine gw_ev HF132 (want_none rfl) rfl (by decide) (op_geq rfl (HF132.ev rfl) (ev_c _ _)) ?_
      intro a133 HF134; clear HF132
      refine wpList_nil ?_
      refine gw_nx (hK130 _ _ ?_)
      refine gw_cond HF134 rfl (fun hb135 => ?_) (fun hb135 => ?_)
      · skip
        have HF136 := HF134.subst_ (d := 44) (b := true) rfl hb135
        clear HF134
        (try simp only [decide_eq_true_eq, decide_eq_false_iff_not, Bool.not_eq_true', Bool.not_eq_false', Bool.not_eq_true, Bool.not_eq_false, ne_eq, Decidable.not_not, Int.not_lt, Int.not_le, not_true_eq_false, not_false_eq_true, bne_iff_ne, beq_iff_eq, bne_eq_false_iff_eq, beq_eq_false_iff_ne] at hb135)
        refine wp_exit ?_
        refine gw_thx ?_
        refine gw_out (by decide) ?_
        refine gw_thx ?_
        refine gw_thx ?_
        refine gw_in ?_
        refine gw_nx (hK90 _ _ ?_)
        refine gw_seq fun K137 hK137 => ?_
        refine gw_seq fun K138 hK138 => ?_
        refine wp_region_lit ?_
        refine gw_ev HF136 (want_none rfl) rfl (by decide) (op_assign rfl (ev_c _ _)) ?_
        intro a139 HF140; clear HF136
        refine wpList_nil ?_
        refine gw_nx (hK138 _ _ ?_)
        refine wp_block ?_
        refine gw_loop (fun m_ a_ w_ => ∃ (j2 : Int) (at2 : Int) (now2 : Int) (last2 : Int) (al2 : List Int) (Al2 : Option Addr) (cal2 : Nat) (Sl2 : Nat → Prop), Fr 129 a_ [(14, .int .i64 j2), (7, .slice Al2 al2.length cal2), (8, .int .i64 mo), (2, .pointer (some ⟨g2, 0, none⟩)), (5, .pointer (some ⟨l17, 0, none⟩)), (6, .pointer (some ⟨l31, 0, none⟩))] ∧ Own w w_ [Chunk.row (Kd.int .u8) 5 w.heap.size Sl2 (.slice Al2 al2.length cal2) al2, Chunk.blk l31 (.cells #[.slice A32 chs.length c33, .int .i64 en, .int .i64 wt, .int .i64 0, .int .i64 0, .int .i64 0, .slice none (([] : List Int).length) 0] 83 (0, 0)), Chunk.view k52 S34 A32 chs.length c33 chs, Chunk.row (Kd.int .u8) 5 w.heap.size (fun _ => False) (.slice none (([] : List Int).length) 0) ([] : List Int), Chunk.blk l17 (.cells #[.slice A18 chs.length c19, .int .i64 en, .int .i64 wt, .int .i64 at2, .int .i64 now2, .int .i64 last2, .slice none (([] : List Int).length) 0] 83 (0, 0)), Chunk.view k52 S20 A18 chs.length c19 chs, Chunk.row (Kd.int .u8) 5 w.heap.size (fun _ => False) (.slice none (([] : List Int).length) 0) ([] : List Int), Chunk.blk g2 (.cells #[.slice A0_0 chs.length c0_0, .int .i64 en, .int .i64 wt] 48 (0, 0))] ∧ (0 ≤ j2 ∧ j2 ≤ 200 ∧ j2 ≤ at2) ∧ (0 ≤ at2 ∧ at2 ≤ chs.length) ∧ (0 ≤ last2 ∧ last2 ≤ 1000000 * at2) ∧ (Reach chs at2 now2 last2 al2 mo) ∧ m_ = (200 - j2.toNat)) ((200 - (0 : Int).toNat)) ?_ ?_
        · refine ⟨0, atz, nowz, lastz, alz, Alz, _, _, (HF140.pick (t := 14) rfl (HF140.pick (t := 7) rfl (HF140.pick (t := 8) rfl (HF140.pick (t := 2) rfl (HF140.pick (t := 5) rfl (HF140.pick (t := 6) rfl HF140.nil)))))), HO103.sel [0, 1, 2, 3, 4, 5, 6, 7] (by decide), ?_, ?_, ?_, ?_, rfl⟩
          · (first | omega | ((try simp only [List.length_append, List.length_take, List.length_drop, List.length_nil, List.length_cons, List.length_set] at *); omega))
          · (first | omega | ((try simp only [List.length_append, List.length_take, List.length_drop, List.length_nil, List.length_cons, List.length_set] at *); omega))
          · (first | omega | ((try simp only [List.length_append, List.length_take, List.length_drop, List.length_nil, List.length_cons, List.length_set] at *); omega))
          · exact hrrz
        · rintro m142 a143 w144 ⟨j2, at2, now2, last2, al2, Al2, cal2, Sl2, HF145, HO146, hi2, ha2, hl2, hrr2, hm147⟩
          refine gw_seq fun K148 hK148 => ?_
          refine gw_seq fun K149 hK149 => ?_
          refine wp_region_lit ?_
          refine gw_ev HF145 (want_none rfl) rfl (by decide) (op_move rfl (HF145.ev rfl)) ?_
          intro a150 HF151; clear HF145
          refine gw_ev HF151 (want_none rfl) rfl (by decide) (op_lss rfl (HF151.ev rfl) (ev_c _ _)) ?_
          intro a152 HF153; clear HF151
          refine wpList_nil ?_
          refine gw_nx (hK149 _ _ ?_)
          refine gw_cond HF153 rfl (fun hb154 => ?_) (fun hb154 => ?_)
          · skip
            have HF155 := HF153.subst_ (d := 83) (b := true) rfl hb154
            clear HF153
            (try simp only [decide_eq_true_eq, decide_eq_false_iff_not, Bool.not_eq_true', Bool.not_eq_false', Bool.not_eq_true, Bool.not_eq_false, ne_eq, Decidable.not_not, Int.not_lt, Int.not_le, not_true_eq_false, not_false_eq_true, bne_iff_ne, beq_iff_eq, bne_eq_false_iff_eq, beq_eq_false_iff_ne] at hb154)
            refine wp_skip ?_
            refine gw_nx (hK148 _ _ ?_)
            refine gw_seq fun K156 hK156 => ?_
            refine wp_block ?_
            refine gw_seq fun K157 hK157 => ?_
            refine wp_region_lit ?_
            refine gw_ev HF155 (want_none rfl) rfl (by decide) (op_move rfl (HF155.ev rfl)) ?_
            intro a158 HF159; clear HF155
            refine gw_ev HF159 (want_none rfl) rfl (by decide) (op_move rfl (HF159.ev rfl)) ?_
            intro a160 HF161; clear HF159
            have HO171 : Own w _ [(Chunk.all [Chunk.row (Kd.int .u8) 5 w.heap.size Sl2 (.slice Al2 al2.length cal2) al2, Chunk.blk l31 (.cells #[.slice A32 chs.length c33, .int .i64 en, .int .i64 wt, .int .i64 0, .int .i64 0, .int .i64 0, .slice none (([] : List Int).length) 0] 83 (0, 0)), Chunk.view k52 S34 A32 chs.length c33 chs, Chunk.row (Kd.int .u8) 5 w.heap.size (fun _ => False) (.slice none (([] : List Int).length) 0) ([] : List Int), Chunk.row (Kd.int .u8) 5 w.heap.size (fun _ => False) (.slice none (([] : List Int).length) 0) ([] : List Int), Chunk.blk g2 (.cells #[.slice A0_0 chs.length c0_0, .int .i64 en, .int .i64 wt] 48 (0, 0))]), Chunk.blk l17 (.cells #[.slice A18 chs.length c19, .int .i64 en, .int .i64 wt, .int .i64 at2, .int .i64 now2, .int .i64 last2, .slice none (([] : List Int).length) 0] 83 (0, 0)), Chunk.view k52 S20 A18 chs.length c19 chs] := Own.bundle (A := [Chunk.row (Kd.int .u8) 5 w.heap.size Sl2 (.slice Al2 al2.length cal2) al2, Chunk.blk l31 (.cells #[.slice A32 chs.length c33, .int .i64 en, .int .i64 wt, .int .i64 0, .int .i64 0, .int .i64 0, .slice none (([] : List Int).length) 0] 83 (0, 0)), Chunk.view k52 S34 A32 chs.length c33 chs, Chunk.row (Kd.int .u8) 5 w.heap.size (fun _ => False) (.slice none (([] : List Int).length) 0) ([] : List Int), Chunk.row (Kd.int .u8) 5 w.heap.size (fun _ => False) (.slice none (([] : List Int).length) 0) ([] : List Int), Chunk.blk g2 (.cells #[.slice A0_0 chs.length c0_0, .int .i64 en, .int .i64 wt] 48 (0, 0))]) (L := [Chunk.blk l17 (.cells #[.slice A18 chs.length c19, .int .i64 en, .int .i64 wt, .int .i64 at2, .int .i64 now2, .int .i64 last2, .slice none (([] : List Int).length) 0] 83 (0, 0)), Chunk.view k52 S20 A18 chs.length c19 chs]) (HO146.sel [0, 1, 2, 3, 6, 7, 4, 5] (by decide))
            refine gw_call HF161 (want_none rfl) rfl (by decide) (op_callL Try.func24 (by kernel_rfl) rfl rfl (ar_cons (HF161.ev rfl) (ar_cons (HF161.ev rfl) ar_nil))) (GLine_.next_calls w _ (Chunk.all [Chunk.row (Kd.int .u8) 5 w.heap.size Sl2 (.slice Al2 al2.length cal2) al2, Chunk.blk l31 (.cells #[.slice A32 chs.length c33, .int .i64 en, .int .i64 wt, .int .i64 0, .int .i64 0, .int .i64 0, .slice none (([] : List Int).length) 0] 83 (0, 0)), Chunk.view k52 S34 A32 chs.length c33 chs, Chunk.row (Kd.int .u8) 5 w.heap.size (fun _ => False) (.slice none (([] : List Int).length) 0) ([] : List Int), Chunk.row (Kd.int .u8) 5 w.heap.size (fun _ => False) (.slice none (([] : List Int).length) 0) ([] : List Int), Chunk.blk g2 (.cells #[.slice A0_0 chs.length c0_0, .int .i64 en, .int .i64 wt] 48 (0, 0))]) l17 A18 c19 chs en wt at2 now2 last2 none 0 ([] : List Int) S20 mo (by (first | omega | ((try simp only [List.length_append, List.length_take, List.length_drop, List.length_nil, List.length_cons, List.length_set] at *); omega))) (by (first | omega | ((try simp only [List.length_append, List.length_take, List.length_drop, List.length_nil, List.length_cons, List.length_set] at *); omega))) (by (first | omega | ((try simp only [List.length_append, List.length_take, List.length_drop, List.length_nil, List.length_cons, List.length_set] at *); omega))) hz HO171) ?_
            rintro e165 w166 ⟨A162, c163, S164, rfl, hb167⟩
            refine ⟨_, rfl, fun a168 HF169 => ?_⟩
            have HO170 : Own w w166 [Chunk.row (Kd.int .u8) 5 w.heap.size Sl2 (.slice Al2 al2.length cal2) al2, Chunk.blk l31 (.cells #[.slice A32 chs.length c33, .int .i64 en, .int .i64 wt, .int .i64 0, .int .i64 0, .int .i64 0, .slice none (([] : List Int).length) 0] 83 (0, 0)), Chunk.view k52 S34 A32 chs.length c33 chs, Chunk.row (Kd.int .u8) 5 w.heap.size (fun _ => False) (.slice none (([] : List Int).length) 0) ([] : List Int), Chunk.row (Kd.int .u8) 5 w.heap.size (fun _ => False) (.slice none (([] : List Int).length) 0) ([] : List Int), Chunk.blk g2 (.cells #[.slice A0_0 chs.length c0_0, .int .i64 en, .int .i64 wt] 48 (0, 0)), Chunk.row (Kd.int .u8) 5 w.heap.size S164 (.slice A162 ((nextL chs en wt at2 now2 last2 mo).b.length) c163) ((nextL chs en wt at2 now2 last2 mo).b), Chunk.blk l17 (.cells #[.slice A18 chs.length c19, .int .i64 en, .int .i64 wt, .int .i64 ((nextL chs en wt at2 now2 last2 mo).at_), .int .i64 ((nextL chs en wt at2 now2 last2 mo).now), .int .i64 ((nextL chs en wt at2 now2 last2 mo).last), .slice none (([] : List Int).length) 0] 83 (0, 0)), Chunk.view k52 S20 A18 chs.length c19 chs] := Own.unbundle (A := [Chunk.row (Kd.int .u8) 5 w.heap.size Sl2 (.slice Al2 al2.length cal2) al2, Chunk.blk l31 (.cells #[.slice A32 chs.length c33, .int .i64 en, .int .i64 wt, .int .i64 0, .int .i64 0, .int .i64 0, .slice none (([] : List Int).length) 0] 83 (0, 0)), Chunk.view k52 S34 A32 chs.length c33 chs, Chunk.row (Kd.int .u8) 5 w.heap.size (fun _ => False) (.slice none (([] : List Int).length) 0) ([] : List Int), Chunk.row (Kd.int .u8) 5 w.heap.size (fun _ => False) (.slice none (([] : List Int).length) 0) ([] : List Int), Chunk.blk g2 (.cells #[.slice A0_0 chs.length c0_0, .int .i64 en, .int .i64 wt] 48 (0, 0))]) (L := [Chunk.row (Kd.int .u8) 5 w.heap.size S164 (.slice A162 ((nextL chs en wt at2 now2 last2 mo).b.length) c163) ((nextL chs en wt at2 now2 last2 mo).b), Chunk.blk l17 (.cells #[.slice A18 chs.length c19, .int .i64 en, .int .i64 wt, .int .i64 ((nextL chs en wt at2 now2 last2 mo).at_), .int .i64 ((nextL chs en wt at2 now2 last2 mo).now), .int .i64 ((nextL chs en wt at2 now2 last2 mo).last), .slice none (([] : List Int).length) 0] 83 (0, 0)), Chunk.view k52 S20 A18 chs.length c19 chs]) (hb167.sel [1, 0, 2, 3] (by decide))
            clear HO171
            clear HF161 HO146 hb167
            have HO173 : Own w w166 [Chunk.row (Kd.int .u8) 5 w.heap.size Sl2 (.slice Al2 al2.length cal2) al2, Chunk.blk l31 (.cells #[.slice A32 chs.length c33, .int .i64 en, .int .i64 wt, .int .i64 0, .int .i64 0, .int .i64 0, .slice none (([] : List Int).length) 0] 83 (0, 0)), Chunk.view k52 S34 A32 chs.length c33 chs, Chunk.row (Kd.int .u8) 5 w.heap.size (fun _ => False) (.slice none (([] : List Int).length) 0) ([] : List Int), Chunk.row (Kd.int .u8) 5 w.heap.size (fun _ => False) (.slice none (([] : List Int).length) 0) ([] : List Int), Chunk.blk g2 (.cells #[.slice A0_0 chs.length c0_0, .int .i64 en, .int .i64 wt] 48 (0, 0)), Chunk.row (Kd.int .u8) 5 w.heap.size S164 (.slice A162 ((nextL chs en wt at2 now2 last2 mo).b.length) c163) ((nextL chs en wt at2 now2 last2 mo).b), Chunk.blk l17 (.cells #[.slice A18 chs.length c19, .int .i64 en, .int .i64 wt, .int .i64 ((nextL chs en wt at2 now2 last2 mo).at_), .int .i64 ((nextL chs en wt at2 now2 last2 mo).now), .int .i64 ((nextL chs en wt at2 now2 last2 mo).last), .slice none (([] : List Int).length) 0] 83 (0, 0)), Chunk.view k52 S20 A18 chs.length c19 chs] := HO170
            clear HO170
            refine gw_ev HF169 (want_none rfl) rfl (by decide) (op_move rfl (HF169.ev rfl)) ?_
            intro a174 HF175; clear HF169
            have hx1 := reach_next (en := en) (wt := wt) (lim := mo) (most' := mo) hrr2 ha2 (Int.le_refl _) (Int.le_refl _)
            have hx2 := next_st chs en wt at2 now2 last2 mo ha2 hl2
            have hx3 := reach_len hx1.1 hsum
            rw [List.length_append] at hx3
            refine gw_ev HF175 (want_none rfl) rfl (by decide) (op_extract rfl (HF175.ev rfl) rfl) ?_
            intro a176 HF177; clear HF175
            refine gw_ev HF177 (want_none rfl) rfl (by decide) (op_extract rfl (HF177.ev rfl) rfl) ?_
            intro a178 HF179; clear HF177
            refine gw_ev HF179 (want_none rfl) rfl (by decide) (op_assign rfl (HF179.ev rfl)) ?_
            intro a180 HF181; clear HF179
            refine gw_ev HF181 (want_none rfl) rfl (by decide) (op_assign rfl (HF181.ev rfl)) ?_
            intro a182 HF183; clear HF181
            refine wpList_nil ?_
            refine gw_nx (hK157 _ _ ?_)
            refine gw_seq fun K184 hK184 => ?_
            refine gw_seq fun K185 hK185 => ?_
            refine wp_region_lit ?_
            refine gw_ev HF183 (want_none rfl) rfl (by decide) (op_move rfl (HF183.ev rfl)) ?_
            intro a186 HF187; clear HF183
            refine gw_ev HF187 (want_none rfl) rfl (by decide) (op_nei rfl (HF187.ev rfl) (ev_c _ _)) ?_
            intro a188 HF189; clear HF187
            refine wpList_nil ?_
            refine gw_nx (hK185 _ _ ?_)
            refine gw_cond HF189 rfl (fun hb190 => ?_) (fun hb190 => ?_)
            · skip
              have HF191 := HF189.subst_ (d := 93) (b := true) rfl hb190
              clear HF189
              (try simp only [decide_eq_true_eq, decide_eq_false_iff_not, Bool.not_eq_true', Bool.not_eq_false', Bool.not_eq_true, Bool.not_eq_false, ne_eq, Decidable.not_not, Int.not_lt, Int.not_le, not_true_eq_false, not_false_eq_true, bne_iff_ne, beq_iff_eq, bne_eq_false_iff_eq, beq_eq_false_iff_ne] at hb190)
              have FA := fin_stop hrr2 ha2 hb190
              refine wp_exit ?_
              refine gw_thx ?_
              refine gw_out (by decide) ?_
              refine gw_thx ?_
              refine gw_thx ?_
              refine gw_in ?_
              refine gw_nx (hK137 _ _ ?_)
              refine gw_seq fun K192 hK192 => ?_
              refine wp_region_lit ?_
              refine gw_lit (enc := Value.int .u8) (fun _ => rfl) (xs := ([] : List Int)) (e := 5) HF191 HO173 (want_none rfl) rfl (by decide) (op_bslice (by kernel_rfl) rfl pt_nil) (by simp) ?_
              intro A193 S194 a195 w196 HF197 HO198; clear HF191 HO173
              have HO199 : Own w w196 [Chunk.row (Kd.int .u8) 5 w.heap.size S194 (.slice A193 ((([] : List Int)).length) ((([] : List Int)).length)) ([] : List Int), Chunk.row (Kd.int .u8) 5 w.heap.size Sl2 (.slice Al2 al2.length cal2) al2, Chunk.blk l31 (.cells #[.slice A32 chs.length c33, .int .i64 en, .int .i64 wt, .int .i64 0, .int .i64 0, .int .i64 0, .slice none (([] : List Int).length) 0] 83 (0, 0)), Chunk.view k52 S34 A32 chs.length c33 chs, Chunk.row (Kd.int .u8) 5 w.heap.size (fun _ => False) (.slice none (([] : List Int).length) 0) ([] : List Int), Chunk.row (Kd.int .u8) 5 w.heap.size (fun _ => False) (.slice none (([] : List Int).length) 0) ([] : List Int), Chunk.blk g2 (.cells #[.slice A0_0 chs.length c0_0, .int .i64 en, .int .i64 wt] 48 (0, 0)), Chunk.row (Kd.int .u8) 5 w.heap.size S164 (.slice A162 ((nextL chs en wt at2 now2 last2 mo).b.length) c163) ((nextL chs en wt at2 now2 last2 mo).b), Chunk.blk l17 (.cells #[.slice A18 chs.length c19, .int .i64 en, .int .i64 wt, .int .i64 ((nextL chs en wt at2 now2 last2 mo).at_), .int .i64 ((nextL chs en wt at2 now2 last2 mo).now), .int .i64 ((nextL chs en wt at2 now2 last2 mo).last), .slice none (([] : List Int).length) 0] 83 (0, 0)), Chunk.view k52 S20 A18 chs.length c19 chs] := HO198
              clear HO198
              refine gw_ev HF197 (want_none rfl) rfl (by decide) (op_assign rfl (HF197.ev rfl)) ?_
              intro a200 HF201; clear HF197
              refine wpList_nil ?_
              refine gw_nx (hK192 _ _ ?_)
              refine gw_seq fun K202 hK202 => ?_
              refine gw_seq fun K203 hK203 => ?_
              refine wp_region_lit ?_
              refine gw_ev HF201 (want_none rfl) rfl (by decide) (op_assign rfl (ev_c _ _)) ?_
              intro a204 HF205; clear HF201
              refine wpList_nil ?_
              refine gw_nx (hK203 _ _ ?_)
              refine wp_block ?_
              refine gw_loop (fun m_ a_ w_ => ∃ (j3 : Int) (at3 : Int) (now3 : Int) (last3 : Int) (al3 : List Int) (Al3 : Option Addr) (cal3 : Nat) (Sl3 : Nat → Prop), Fr 129 a_ [(18, .int .i64 j3), (17, .slice Al3 al3.length cal3), (7, .slice Al2 al2.length cal2), (8, .int .i64 mo), (2, .pointer (some ⟨g2, 0, none⟩)), (5, .pointer (some ⟨l17, 0, none⟩)), (6, .pointer (some ⟨l31, 0, none⟩))] ∧ Own w w_ [Chunk.row (Kd.int .u8) 5 w.heap.size Sl3 (.slice Al3 al3.length cal3) al3, Chunk.row (Kd.int .u8) 5 w.heap.size Sl2 (.slice Al2 al2.length cal2) al2, Chunk.blk l31 (.cells #[.slice A32 chs.length c33, .int .i64 en, .int .i64 wt, .int .i64 at3, .int .i64 now3, .int .i64 last3, .slice none (([] : List Int).length) 0] 83 (0, 0)), Chunk.view k52 S34 A32 chs.length c33 chs, Chunk.row (Kd.int .u8) 5 w.heap.size (fun _ => False) (.slice none (([] : List Int).length) 0) ([] : List Int), Chunk.row (Kd.int .u8) 5 w.heap.size (fun _ => False) (.slice none (([] : List Int).length) 0) ([] : List Int), Chunk.blk g2 (.cells #[.slice A0_0 chs.length c0_0, .int .i64 en, .int .i64 wt] 48 (0, 0)), Chunk.row (Kd.int .u8) 5 w.heap.size S164 (.slice A162 ((nextL chs en wt at2 now2 last2 mo).b.length) c163) ((nextL chs en wt at2 now2 last2 mo).b), Chunk.blk l17 (.cells #[.slice A18 chs.length c19, .int .i64 en, .int .i64 wt, .int .i64 ((nextL chs en wt at2 now2 last2 mo).at_), .int .i64 ((nextL chs en wt at2 now2 last2 mo).now), .int .i64 ((nextL chs en wt at2 now2 last2 mo).last), .slice none (([] : List Int).length) 0] 83 (0, 0)), Chunk.view k52 S20 A18 chs.length c19 chs] ∧ (0 ≤ j3 ∧ j3 ≤ 300 ∧ j3 ≤ at3) ∧ (0 ≤ at3 ∧ at3 ≤ chs.length) ∧ (0 ≤ last3 ∧ last3 ≤ 1000000 * at3) ∧ (Reach chs at3 now3 last3 al3 mo) ∧ m_ = (300 - j3.toNat)) ((300 - (0 : Int).toNat)) ?_ ?_
              · refine ⟨0, 0, 0, 0, [], A193, _, _, (HF205.pick (t := 18) rfl (HF205.pick (t := 17) rfl (HF205.pick (t := 7) rfl (HF205.pick (t := 8) rfl (HF205.pick (t := 2) rfl (HF205.pick (t := 5) rfl (HF205.pick (t := 6) rfl HF205.nil))))))), HO199.sel [0, 1, 2, 3, 4, 5, 6, 7, 8, 9] (by decide), ?_, ?_, ?_, ?_, rfl⟩
                · (first | omega | ((try simp only [List.length_append, List.length_take, List.length_drop, List.length_nil, List.length_cons, List.length_set] at *); omega))
                · (first | omega | ((try simp only [List.length_append, List.length_take, List.length_drop, List.length_nil, List.length_cons, List.length_set] at *); omega))
                · (first | omega | ((try simp only [List.length_append, List.length_take, List.length_drop, List.length_nil, List.length_cons, List.length_set] at *); omega))
                · exact ⟨by simp [lastL], by simp [bytesL], by (first | omega | ((try simp only [List.length_append, List.length_take, List.length_drop, List.length_nil, List.length_cons, List.length_set] at *); omega)), by (first | omega | ((try simp only [List.length_append, List.length_take, List.length_drop, List.length_nil, List.length_cons, List.length_set] at *); omega)), by (first | omega | ((try simp only [List.length_append, List.length_take, List.length_drop, List.length_nil, List.length_cons, List.length_set] at *); omega))⟩
              · rintro m207 a208 w209 ⟨j3, at3, now3, last3, al3, Al3, cal3, Sl3, HF210, HO211, hi3, ha3, hl3, hrr3, hm212⟩
                refine gw_seq fun K213 hK213 => ?_
                refine gw_seq fun K214 hK214 => ?_
                refine wp_region_lit ?_
                refine gw_ev HF210 (want_none rfl) rfl (by decide) (op_move rfl (HF210.ev rfl)) ?_
                intro a215 HF216; clear HF210
                refine gw_ev HF216 (want_none rfl) rfl (by decide) (op_lss rfl (HF216.ev rfl) (ev_c _ _)) ?_
                intro a217 HF218; clear HF216
                refine wpList_nil ?_
                refine gw_nx (hK214 _ _ ?_)
                refine gw_cond HF218 rfl (fun hb219 => ?_) (fun hb219 => ?_)
                · skip
                  have HF220 := HF218.subst_ (d := 99) (b := true) rfl hb219
                  clear HF218
                  (try simp only [decide_eq_true_eq, decide_eq_false_iff_not, Bool.not_eq_true', Bool.not_eq_false', Bool.not_eq_true, Bool.not_eq_false, ne_eq, Decidable.not_not, Int.not_lt, Int.not_le, not_true_eq_false, not_false_eq_true, bne_iff_ne, beq_iff_eq, bne_eq_false_iff_eq, beq_eq_false_iff_ne] at hb219)
                  refine wp_skip ?_
                  refine gw_nx (hK213 _ _ ?_)
                  refine gw_seq fun K221 hK221 => ?_
                  refine wp_block ?_
                  refine gw_seq fun K222 hK222 => ?_
                  refine wp_region_lit ?_
                  refine gw_ev HF220 (want_none rfl) rfl (by decide) (op_move rfl (HF220.ev rfl)) ?_
                  intro a223 HF224; clear HF220
                  refine gw_ev HF224 (want_none rfl) rfl (by decide) (op_move rfl (HF224.ev rfl)) ?_
                  intro a225 HF226; clear HF224
                  have HO236 : Own w _ [(Chunk.all [Chunk.row (Kd.int .u8) 5 w.heap.size Sl3 (.slice Al3 al3.length cal3) al3, Chunk.row (Kd.int .u8) 5 w.heap.size Sl2 (.slice Al2 al2.length cal2) al2, Chunk.row (Kd.int .u8) 5 w.heap.size (fun _ => False) (.slice none (([] : List Int).length) 0) ([] : List Int), Chunk.row (Kd.int .u8) 5 w.heap.size (fun _ => False) (.slice none (([] : List Int).length) 0) ([] : List Int), Chunk.blk g2 (.cells #[.slice A0_0 chs.length c0_0, .int .i64 en, .int .i64 wt] 48 (0, 0)), Chunk.row (Kd.int .u8) 5 w.heap.size S164 (.slice A162 ((nextL chs en wt at2 now2 last2 mo).b.length) c163) ((nextL chs en wt at2 now2 last2 mo).b), Chunk.blk l17 (.cells #[.slice A18 chs.length c19, .int .i64 en, .int .i64 wt, .int .i64 ((nextL chs en wt at2 now2 last2 mo).at_), .int .i64 ((nextL chs en wt at2 now2 last2 mo).now), .int .i64 ((nextL chs en wt at2 now2 last2 mo).last), .slice none (([] : List Int).length) 0] 83 (0, 0)), Chunk.view k52 S20 A18 chs.length c19 chs]), Chunk.blk l31 (.cells #[.slice A32 chs.length c33, .int .i64 en, .int .i64 wt, .int .i64 at3, .int .i64 now3, .int .i64 last3, .slice none (([] : List Int).length) 0] 83 (0, 0)), Chunk.view k52 S34 A32 chs.length c33 chs] := Own.bundle (A := [Chunk.row (Kd.int .u8) 5 w.heap.size Sl3 (.slice Al3 al3.length cal3) al3, Chunk.row (Kd.int .u8) 5 w.heap.size Sl2 (.slice Al2 al2.length cal2) al2, Chunk.row (Kd.int .u8) 5 w.heap.size (fun _ => False) (.slice none (([] : List Int).length) 0) ([] : List Int), Chunk.row (Kd.int .u8) 5 w.heap.size (fun _ => False) (.slice none (([] : List Int).length) 0) ([] : List Int), Chunk.blk g2 (.cells #[.slice A0_0 chs.length c0_0, .int .i64 en, .int .i64 wt] 48 (0, 0)), Chunk.row (Kd.int .u8) 5 w.heap.size S164 (.slice A162 ((nextL chs en wt at2 now2 last2 mo).b.length) c163) ((nextL chs en wt at2 now2 last2 mo).b), Chunk.blk l17 (.cells #[.slice A18 chs.length c19, .int .i64 en, .int .i64 wt, .int .i64 ((nextL chs en wt at2 now2 last2 mo).at_), .int .i64 ((nextL chs en wt at2 now2 last2 mo).now), .int .i64 ((nextL chs en wt at2 now2 last2 mo).last), .slice none (([] : List Int).length) 0] 83 (0, 0)), Chunk.view k52 S20 A18 chs.length c19 chs]) (L := [Chunk.blk l31 (.cells #[.slice A32 chs.length c33, .int .i64 en, .int .i64 wt, .int .i64 at3, .int .i64 now3, .int .i64 last3, .slice none (([] : List Int).length) 0] 83 (0, 0)), Chunk.view k52 S34 A32 chs.length c33 chs]) (HO211.sel [0, 1, 4, 5, 6, 7, 8, 9, 2, 3] (by decide))
                  refine gw_call HF226 (want_none rfl) rfl (by decide) (op_callL Try.func24 (by kernel_rfl) rfl rfl (ar_cons (HF226.ev rfl) (ar_cons (HF226.ev rfl) ar_nil))) (GLine_.next_calls w _ (Chunk.all [Chunk.row (Kd.int .u8) 5 w.heap.size Sl3 (.slice Al3 al3.length cal3) al3, Chunk.row (Kd.int .u8) 5 w.heap.size Sl2 (.slice Al2 al2.length cal2) al2, Chunk.row (Kd.int .u8) 5 w.heap.size (fun _ => False) (.slice none (([] : List Int).length) 0) ([] : List Int), Chunk.row (Kd.int .u8) 5 w.heap.size (fun _ => False) (.slice none (([] : List Int).length) 0) ([] : List Int), Chunk.blk g2 (.cells #[.slice A0_0 chs.length c0_0, .int .i64 en, .int .i64 wt] 48 (0, 0)), Chunk.row (Kd.int .u8) 5 w.heap.size S164 (.slice A162 ((nextL chs en wt at2 now2 last2 mo).b.length) c163) ((nextL chs en wt at2 now2 last2 mo).b), Chunk.blk l17 (.cells #[.slice A18 chs.length c19, .int .i64 en, .int .i64 wt, .int .i64 ((nextL chs en wt at2 now2 last2 mo).at_), .int .i64 ((nextL chs en wt at2 now2 last2 mo).now), .int .i64 ((nextL chs en wt at2 now2 last2 mo).last), .slice none (([] : List Int).length) 0] 83 (0, 0)), Chunk.view k52 S20 A18 chs.length c19 chs]) l31 A32 c33 chs en wt at3 now3 last3 none 0 ([] : List Int) S34 mo (by (first | omega | ((try simp only [List.length_append, List.length_take, List.length_drop, List.length_nil, List.length_cons, List.length_set] at *); omega))) (by (first | omega | ((try simp only [List.length_append, List.length_take, List.length_drop, List.length_nil, List.length_cons, List.length_set] at *); omega))) (by (first | omega | ((try simp only [List.length_append, List.length_take, List.length_drop, List.length_nil, List.length_cons, List.length_set] at *); omega))) hz HO236) ?_
                  rintro e230 w231 ⟨A227, c228, S229, rfl, hb232⟩
                  refine ⟨_, rfl, fun a233 HF234 => ?_⟩
                  have HO235 : Own w w231 [Chunk.row (Kd.int .u8) 5 w.heap.size Sl3 (.slice Al3 al3.length cal3) al3, Chunk.row (Kd.int .u8) 5 w.heap.size Sl2 (.slice Al2 al2.length cal2) al2, Chunk.row (Kd.int .u8) 5 w.heap.size (fun _ => False) (.slice none (([] : List Int).length) 0) ([] : List Int), Chunk.row (Kd.int .u8) 5 w.heap.size (fun _ => False) (.slice none (([] : List Int).length) 0) ([] : List Int), Chunk.blk g2 (.cells #[.slice A0_0 chs.length c0_0, .int .i64 en, .int .i64 wt] 48 (0, 0)), Chunk.row (Kd.int .u8) 5 w.heap.size S164 (.slice A162 ((nextL chs en wt at2 now2 last2 mo).b.length) c163) ((nextL chs en wt at2 now2 last2 mo).b), Chunk.blk l17 (.cells #[.slice A18 chs.length c19, .int .i64 en, .int .i64 wt, .int .i64 ((nextL chs en wt at2 now2 last2 mo).at_), .int .i64 ((nextL chs en wt at2 now2 last2 mo).now), .int .i64 ((nextL chs en wt at2 now2 last2 mo).last), .slice none (([] : List Int).length) 0] 83 (0, 0)), Chunk.view k52 S20 A18 chs.length c19 chs, Chunk.row (Kd.int .u8) 5 w.heap.size S229 (.slice A227 ((nextL chs en wt at3 now3 last3 mo).b.length) c228) ((nextL chs en wt at3 now3 last3 mo).b), Chunk.blk l31 (.cells #[.slice A32 chs.length c33, .int .i64 en, .int .i64 wt, .int .i64 ((nextL chs en wt at3 now3 last3 mo).at_), .int .i64 ((nextL chs en wt at3 now3 last3 mo).now), .int .i64 ((nextL chs en wt at3 now3 last3 mo).last), .slice none (([] : List Int).length) 0] 83 (0, 0)), Chunk.view k52 S34 A32 chs.length c33 chs] := Own.unbundle (A := [Chunk.row (Kd.int .u8) 5 w.heap.size Sl3 (.slice Al3 al3.length cal3) al3, Chunk.row (Kd.int .u8) 5 w.heap.size Sl2 (.slice Al2 al2.length cal2) al2, Chunk.row (Kd.int .u8) 5 w.heap.size (fun _ => False) (.slice none (([] : List Int).length) 0) ([] : List Int), Chunk.row (Kd.int .u8) 5 w.heap.size (fun _ => False) (.slice none (([] : List Int).length) 0) ([] : List Int), Chunk.blk g2 (.cells #[.slice A0_0 chs.length c0_0, .int .i64 en, .int .i64 wt] 48 (0, 0)), Chunk.row (Kd.int .u8) 5 w.heap.size S164 (.slice A162 ((nextL chs en wt at2 now2 last2 mo).b.length) c163) ((nextL chs en wt at2 now2 last2 mo).b), Chunk.blk l17 (.cells #[.slice A18 chs.length c19, .int .i64 en, .int .i64 wt, .int .i64 ((nextL chs en wt at2 now2 last2 mo).at_), .int .i64 ((nextL chs en wt at2 now2 last2 mo).now), .int .i64 ((nextL chs en wt at2 now2 last2 mo).last), .slice none (([] : List Int).length) 0] 83 (0, 0)), Chunk.view k52 S20 A18 chs.length c19 chs]) (L := [Chunk.row (Kd.int .u8) 5 w.heap.size S229 (.slice A227 ((nextL chs en wt at3 now3 last3 mo).b.length) c228) ((nextL chs en wt at3 now3 last3 mo).b), Chunk.blk l31 (.cells #[.slice A32 chs.length c33, .int .i64 en, .int .i64 wt, .int .i64 ((nextL chs en wt at3 now3 last3 mo).at_), .int .i64 ((nextL chs en wt at3 now3 last3 mo).now), .int .i64 ((nextL chs en wt at3 now3 last3 mo).last), .slice none (([] : List Int).length) 0] 83 (0, 0)), Chunk.view k52 S34 A32 chs.length c33 chs]) (hb232.sel [1, 0, 2, 3] (by decide))
                  clear HO236
                  clear HF226 HO211 hb232
                  have HO238 : Own w w231 [Chunk.row (Kd.int .u8) 5 w.heap.size Sl3 (.slice Al3 al3.length cal3) al3, Chunk.row (Kd.int .u8) 5 w.heap.size Sl2 (.slice Al2 al2.length cal2) al2, Chunk.row (Kd.int .u8) 5 w.heap.size (fun _ => False) (.slice none (([] : List Int).length) 0) ([] : List Int), Chunk.row (Kd.int .u8) 5 w.heap.size (fun _ => False) (.slice none (([] : List Int).length) 0) ([] : List Int), Chunk.blk g2 (.cells #[.slice A0_0 chs.length c0_0, .int .i64 en, .int .i64 wt] 48 (0, 0)), Chunk.row (Kd.int .u8) 5 w.heap.size S164 (.slice A162 ((nextL chs en wt at2 now2 last2 mo).b.length) c163) ((nextL chs en wt at2 now2 last2 mo).b), Chunk.blk l17 (.cells #[.slice A18 chs.length c19, .int .i64 en, .int .i64 wt, .int .i64 ((nextL chs en wt at2 now2 last2 mo).at_), .int .i64 ((nextL chs en wt at2 now2 last2 mo).now), .int .i64 ((nextL chs en wt at2 now2 last2 mo).last), .slice none (([] : List Int).length) 0] 83 (0, 0)), Chunk.view k52 S20 A18 chs.length c19 chs, Chunk.row (Kd.int .u8) 5 w.heap.size S229 (.slice A227 ((nextL chs en wt at3 now3 last3 mo).b.length) c228) ((nextL chs en wt at3 now3 last3 mo).b), Chunk.blk l31 (.cells #[.slice A32 chs.length c33, .int .i64 en, .int .i64 wt, .int .i64 ((nextL chs en wt at3 now3 last3 mo).at_), .int .i64 ((nextL chs en wt at3 now3 last3 mo).now), .int .i64 ((nextL chs en wt at3 now3 last3 mo).last), .slice none (([] : List Int).length) 0] 83 (0, 0)), Chunk.view k52 S34 A32 chs.length c33 chs] := HO235
                  clear HO235
                  refine gw_ev HF234 (want_none rfl) rfl (by decide) (op_move rfl (HF234.ev rfl)) ?_
                  intro a239 HF240; clear HF234
                  have hx1 := reach_next (en := en) (wt := wt) (lim := mo) (most' := mo) hrr3 ha3 (Int.le_refl _) (Int.le_refl _)
                  have hx2 := next_st chs en wt at3 now3 last3 mo ha3 hl3
                  have hx3 := reach_len hx1.1 hsum
                  rw [List.length_append] at hx3
                  refine gw_ev HF240 (want_none rfl) rfl (by decide) (op_extract rfl (HF240.ev rfl) rfl) ?_
                  intro a241 HF242; clear HF240
                  refine gw_ev HF242 (want_none rfl) rfl (by decide) (op_extract rfl (HF242.ev rfl) rfl) ?_
                  intro a243 HF244; clear HF242
                  refine gw_ev HF244 (want_none rfl) rfl (by decide) (op_assign rfl (HF244.ev rfl)) ?_
                  intro a245 HF246; clear HF244
                  refine gw_ev HF246 (want_none rfl) rfl (by decide) (op_assign rfl (HF246.ev rfl)) ?_
                  intro a247 HF248; clear HF246
                  refine wpList_nil ?_
                  refine gw_nx (hK222 _ _ ?_)
                  refine gw_seq fun K249 hK249 => ?_
                  refine gw_seq fun K250 hK250 => ?_
                  refine wp_region_lit ?_
                  refine gw_ev HF248 (want_none rfl) rfl (by decide) (op_move rfl (HF248.ev rfl)) ?_
                  intro a251 HF252; clear HF248
                  refine gw_ev HF252 (want_none rfl) rfl (by decide) (op_nei rfl (HF252.ev rfl) (ev_c _ _)) ?_
                  intro a253 HF254; clear HF252
                  refine wpList_nil ?_
                  refine gw_nx (hK250 _ _ ?_)
                  refine gw_cond HF254 rfl (fun hb255 => ?_) (fun hb255 => ?_)
                  · skip
                    have HF256 := HF254.subst_ (d := 109) (b := true) rfl hb255
                    clear HF254
                    (try simp only [decide_eq_true_eq, decide_eq_false_iff_not, Bool.not_eq_true', Bool.not_eq_false', Bool.not_eq_true, Bool.not_eq_false, ne_eq, Decidable.not_not, Int.not_lt, Int.not_le, not_true_eq_false, not_false_eq_true, bne_iff_ne, beq_iff_eq, bne_eq_false_iff_eq, beq_eq_false_iff_ne] at hb255)
                    have FB := fin_stop hrr3 ha3 hb255
                    refine wp_exit ?_
                    refine gw_thx ?_
                    refine gw_out (by decide) ?_
                    refine gw_thx ?_
                    refine gw_thx ?_
                    refine gw_in ?_
                    refine gw_nx (hK202 _ _ ?_)
                    refine gw_seq fun K257 hK257 => ?_
                    refine wp_region_lit ?_
                    refine gw_ev HF256 (want_none rfl) rfl (by decide) (op_field (gwfld48_0 _ _) rfl (HF256.ev rfl)) ?_
                    intro a258 HF259; clear HF256
                    refine gw_ev HF259 (want_none rfl) rfl (by decide) (op_load1 gwagg46 rfl (HF259.ev rfl) (blk_at (HO238.get 4 rfl) rfl)) ?_
                    intro a260 HF261; clear HF259
                    refine gw_ev HF261 (want_none rfl) rfl (by decide) (op_len Try.underlying46 rfl (HF261.ev rfl)) ?_
                    intro a262 HF263; clear HF261
                    refine gw_ev HF263 (want_none rfl) rfl (by decide) (op_gtr rfl (HF263.ev rfl) (ev_c _ _)) ?_
                    intro a264 HF265; clear HF263
                    refine gw_ev HF265 (want_none rfl) rfl (by decide) (op_move rfl (HF265.ev rfl)) ?_
                    intro a266 HF267; clear HF265
                    rcases Bool.eq_false_or_eq_true (decide (200 < (chs.length : Int))) with hb268 | hb268
                    · skip
                      have HF269 := HF267.subst_ (d := 117) (b := true) rfl hb268
                      clear HF267
                      (try simp only [decide_eq_true_eq, decide_eq_false_iff_not, Bool.not_eq_true', Bool.not_eq_false', Bool.not_eq_true, Bool.not_eq_false, ne_eq, Decidable.not_not, Int.not_lt, Int.not_le, not_true_eq_false, not_false_eq_true, bne_iff_ne, beq_iff_eq, bne_eq_false_iff_eq, beq_eq_false_iff_ne] at hb268)
                      refine gw_off HF269 (want_no HF269 rfl rfl rfl rfl (by decide)) rfl (by decide) ?_
                      intro a270 HF271; clear HF269
                      refine gw_off HF271 (want_no HF271 rfl rfl rfl rfl (by decide)) rfl (by decide) ?_
                      intro a272 HF273; clear HF271
                      refine gw_off HF273 (want_no HF273 rfl rfl rfl rfl (by decide)) rfl (by decide) ?_
                      intro a274 HF275; clear HF273
                      refine gw_off HF275 (want_no HF275 rfl rfl rfl rfl (by decide)) rfl (by decide) ?_
                      intro a276 HF277; clear HF275
                      refine gw_off HF277 (want_undef HF277 rfl rfl rfl rfl) rfl (by decide) ?_
                      intro a278 HF279; clear HF277
                      refine gw_off HF279 (want_undef HF279 rfl rfl rfl rfl) rfl (by decide) ?_
                      intro a280 HF281; clear HF279
                      refine gw_off HF281 (want_undef HF281 rfl rfl rfl rfl) rfl (by decide) ?_
                      intro a282 HF283; clear HF281
                      refine gw_off HF283 (want_undef HF283 rfl rfl rfl rfl) rfl (by decide) ?_
                      intro a284 HF285; clear HF283
                      refine gw_off HF285 (want_undef HF285 rfl rfl rfl rfl) rfl (by decide) ?_
                      intro a286 HF287; clear HF285
                      refine gw_off HF287 (want_no HF287 rfl rfl rfl rfl (by decide)) rfl (by decide) ?_
                      intro a288 HF289; clear HF287
                      refine gw_ev HF289 (want_none rfl) rfl (by decide) (op_pick_t rfl (HF289.ev rfl) (ev_c _ _)) ?_
                      intro a290 HF291; clear HF289
                      refine gw_ev HF291 (want_none rfl) rfl (by decide) (op_assign rfl (HF291.ev rfl)) ?_
                      intro a292 HF293; clear HF291
                      refine wpList_nil ?_
                      refine gw_nx (hK257 _ _ ?_)
                      refine wp_ret ?_
                      refine gw_ret1 HF293 rfl rfl ?_
                      exact ⟨rfl, HO238.below⟩
                    · skip
                      have HF294 := HF267.subst_ (d := 117) (b := false) rfl hb268
                      clear HF267
                      (try simp only [decide_eq_true_eq, decide_eq_false_iff_not, Bool.not_eq_true', Bool.not_eq_false', Bool.not_eq_true, Bool.not_eq_false, ne_eq, Decidable.not_not, Int.not_lt, Int.not_le, not_true_eq_false, not_false_eq_true, bne_iff_ne, beq_iff_eq, bne_eq_false_iff_eq, beq_eq_false_iff_ne] at hb268)
                      refine gw_ev HF294 (want_yes HF294 rfl rfl rfl rfl) rfl (by decide) (op_move rfl (HF294.ev rfl)) ?_
                      intro a295 HF296; clear HF294
                      refine gw_ev HF296 (want_yes HF296 rfl rfl rfl rfl) rfl (by decide) (op_move rfl (HF296.ev rfl)) ?_
                      intro a297 HF298; clear HF296
                      refine gw_call HF298 (want_yes HF298 rfl rfl rfl rfl) rfl (by decide) (op_callL Try.func18 (by kernel_rfl) rfl rfl (ar_cons (HF298.ev rfl) (ar_cons (HF298.ev rfl) ar_nil))) (same_calls Al2 cal2 al2 Al3 cal3 al3 _ (Kd.R_reads' (HO238.get 1 rfl)).2.2 (row_cap (HO238.get 1 rfl)) (Kd.R_reads' (HO238.get 0 rfl)).2.2 (row_cap (HO238.get 0 rfl)) (by first | omega | (have := reach_len hrr2 hsum; omega))) ?_
                      rintro e299 w300 ⟨rfl, hb301⟩
                      refine ⟨_, rfl, fun a302 HF303 => ?_⟩
                      have HO304 := HO238.after hb301
                      clear HF298 HO238 hb301
                      have HF306 := HF303.lit (b := true) (by rw [(fin_eq FA FB (by (first | omega | ((try simp only [List.length_append, List.length_take, List.length_drop, List.length_nil, List.length_cons, List.length_set] at *); omega)))).2]; simp)
                      clear HF303
                      refine gw_ev HF306 (want_yes HF306 rfl rfl rfl rfl) rfl (by decide) (op_move rfl (HF306.ev rfl)) ?_
                      intro a307 HF308; clear HF306
                      refine gw_ev HF308 (want_yes HF308 rfl rfl rfl rfl) rfl (by decide) (op_move rfl (HF308.ev rfl)) ?_
                      intro a309 HF310; clear HF308
                      refine gw_call HF310 (want_yes HF310 rfl rfl rfl rfl) rfl (by decide) (op_callL Try.func26 (by kernel_rfl) rfl rfl (ar_cons (HF310.ev rfl) ar_nil)) (GLine_.rest_calls l17 A18 c19 chs en wt ((nextL chs en wt at2 now2 last2 mo).at_) ((nextL chs en wt at2 now2 last2 mo).now) ((nextL chs en wt at2 now2 last2 mo).last) none 0 ([] : List Int) _ (HO304.get 6 rfl) (by (first | omega | ((try simp only [List.length_append, List.length_take, List.length_drop, List.length_nil, List.length_cons, List.length_set] at *); omega))) (by (first | omega | ((try simp only [List.length_append, List.length_take, List.length_drop, List.length_nil, List.length_cons, List.length_set] at *); omega))) (by (first | omega | ((try simp only [List.length_append, List.length_take, List.length_drop, List.length_nil, List.length_cons, List.length_set] at *); omega)))) ?_
                      rintro e311 w312 ⟨rfl, hb313⟩
                      refine ⟨_, rfl, fun a314 HF315 => ?_⟩
                      have HO316 := HO304.after hb313
                      clear HF310 HO304 hb313
                      refine gw_ev HF315 (want_yes HF315 rfl rfl rfl rfl) rfl (by decide) (op_move rfl (HF315.ev rfl)) ?_
                      intro a318 HF319; clear HF315
                      refine gw_call HF319 (want_yes HF319 rfl rfl rfl rfl) rfl (by decide) (op_callL Try.func26 (by kernel_rfl) rfl rfl (ar_cons (HF319.ev rfl) ar_nil)) (GLine_.rest_calls l31 A32 c33 chs en wt ((nextL chs en wt at3 now3 last3 mo).at_) ((nextL chs en wt at3 now3 last3 mo).now) ((nextL chs en wt at3 now3 last3 mo).last) none 0 ([] : List Int) _ (HO316.get 9 rfl) (by (first | omega | ((try simp only [List.length_append, List.length_take, List.length_drop, List.length_nil, List.length_cons, List.length_set] at *); omega))) (by (first | omega | ((try simp only [List.length_append, List.length_take, List.length_drop, List.length_nil, List.length_cons, List.length_set] at *); omega))) (by (first | omega | ((try simp only [List.length_append, List.length_take, List.length_drop, List.length_nil, List.length_cons, List.length_set] at *); omega)))) ?_
                      rintro e320 w321 ⟨rfl, hb322⟩
                      refine ⟨_, rfl, fun a323 HF324 => ?_⟩
                      have HO325 := HO316.after hb322
                      clear HF319 HO316 hb322
                      refine gw_ev HF324 (want_yes HF324 rfl rfl rfl rfl) rfl (by decide) (op_eqi rfl (HF324.ev rfl) (HF324.ev rfl)) ?_
                      intro a327 HF328; clear HF324
                      have HF329 := HF328.lit (b := true) (by rw [(fin_eq FA FB (by (first | omega | ((try simp only [List.length_append, List.length_take, List.length_drop, List.length_nil, List.length_cons, List.length_set] at *); omega)))).1]; simp)
                      clear HF328
                      refine gw_ev HF329 (want_yes HF329 rfl rfl rfl rfl) rfl (by decide) (op_pick_t rfl (HF329.ev rfl) (HF329.ev rfl)) ?_
                      intro a330 HF331; clear HF329
                      refine gw_ev HF331 (want_none rfl) rfl (by decide) (op_pick_f rfl (HF331.ev rfl) (HF331.ev rfl)) ?_
                      intro a332 HF333; clear HF331
                      refine gw_ev HF333 (want_none rfl) rfl (by decide) (op_assign rfl (HF333.ev rfl)) ?_
                      intro a334 HF335; clear HF333
                      refine wpList_nil ?_
                      refine gw_nx (hK257 _ _ ?_)
                      refine wp_ret ?_
                      refine gw_ret1 HF335 rfl rfl ?_
                      exact ⟨rfl, HO325.below⟩
                  · skip
                    have HF336 := HF254.subst_ (d := 109) (b := false) rfl hb255
                    clear HF254
                    (try simp only [decide_eq_true_eq, decide_eq_false_iff_not, Bool.not_eq_true', Bool.not_eq_false', Bool.not_eq_true, Bool.not_eq_false, ne_eq, Decidable.not_not, Int.not_lt, Int.not_le, not_true_eq_false, not_false_eq_true, bne_iff_ne, beq_iff_eq, bne_eq_false_iff_eq, beq_eq_false_iff_ne] at hb255)
                    have hat1 := congrArg NX.at_ (next_one hb255).2.2
                    refine wp_skip ?_
                    refine gw_nx (hK249 _ _ ?_)
                    refine wp_region_lit ?_
                    refine gw_ev HF336 (want_none rfl) rfl (by decide) (op_move rfl (HF336.ev rfl)) ?_
                    intro a337 HF338; clear HF336
                    refine gw_ev HF338 (want_none rfl) rfl (by decide) (op_move rfl (HF338.ev rfl)) ?_
                    intro a339 HF340; clear HF338
                    refine gw_append (Kd.int .u8) 0 HF340 HO238 (want_none rfl) rfl (by decide) rfl Try.underlying26 gwinfo5 rfl (by decide) (by decide) rfl (HF340.ev rfl) (HF340.ev rfl) (Kd.R_reads' (HO238.get 8 rfl)).2.2 (fun _ _ h => h) HO238.below.size (by (first | omega | ((try simp only [List.length_append, List.length_take, List.length_drop, List.length_nil, List.length_cons, List.length_set] at *); omega))) ?_
                    intro A341 c342 S343 a344 w345 HF346 HO347; clear HF340 HO238
                    have HO348 : Own w w345 [Chunk.row (Kd.int .u8) 5 w.heap.size S343 (.slice A341 ((al3 ++ (nextL chs en wt at3 now3 last3 mo).b).length) c342) (al3 ++ (nextL chs en wt at3 now3 last3 mo).b), Chunk.row (Kd.int .u8) 5 w.heap.size Sl2 (.slice Al2 al2.length cal2) al2, Chunk.row (Kd.int .u8) 5 w.heap.size (fun _ => False) (.slice none (([] : List Int).length) 0) ([] : List Int), Chunk.row (Kd.int .u8) 5 w.heap.size (fun _ => False) (.slice none (([] : List Int).length) 0) ([] : List Int), Chunk.blk g2 (.cells #[.slice A0_0 chs.length c0_0, .int .i64 en, .int .i64 wt] 48 (0, 0)), Chunk.row (Kd.int .u8) 5 w.heap.size S164 (.slice A162 ((nextL chs en wt at2 now2 last2 mo).b.length) c163) ((nextL chs en wt at2 now2 last2 mo).b), Chunk.blk l17 (.cells #[.slice A18 chs.length c19, .int .i64 en, .int .i64 wt, .int .i64 ((nextL chs en wt at2 now2 last2 mo).at_), .int .i64 ((nextL chs en wt at2 now2 last2 mo).now), .int .i64 ((nextL chs en wt at2 now2 last2 mo).last), .slice none (([] : List Int).length) 0] 83 (0, 0)), Chunk.view k52 S20 A18 chs.length c19 chs, Chunk.row (Kd.int .u8) 5 w.heap.size S229 (.slice A227 ((nextL chs en wt at3 now3 last3 mo).b.length) c228) ((nextL chs en wt at3 now3 last3 mo).b), Chunk.blk l31 (.cells #[.slice A32 chs.length c33, .int .i64 en, .int .i64 wt, .int .i64 ((nextL chs en wt at3 now3 last3 mo).at_), .int .i64 ((nextL chs en wt at3 now3 last3 mo).now), .int .i64 ((nextL chs en wt at3 now3 last3 mo).last), .slice none (([] : List Int).length) 0] 83 (0, 0)), Chunk.view k52 S34 A32 chs.length c33 chs] := HO347
                    clear HO347
                    refine gw_ev HF346 (want_none rfl) rfl (by decide) (op_assign rfl (HF346.ev rfl)) ?_
                    intro a349 HF350; clear HF346
                    refine wpList_nil ?_
                    refine gw_blk ?_
                    refine gw_nx (hK221 _ _ ?_)
                    refine wp_region_lit ?_
                    refine gw_ev HF350 (want_none rfl) rfl (by decide) (op_move rfl (HF350.ev rfl)) ?_
                    intro a351 HF352; clear HF350
                    refine gw_ev HF352 (want_none rfl) rfl (by decide) (op_add rfl (HF352.ev rfl) (ev_c _ _) (by (first | omega | ((try simp only [List.length_append, List.length_take, List.length_drop, List.length_nil, List.length_cons, List.length_set] at *); omega)))) ?_
                    intro a353 HF354; clear HF352
                    refine gw_ev HF354 (want_none rfl) rfl (by decide) (op_assign rfl (HF354.ev rfl)) ?_
                    intro a355 HF356; clear HF354
                    refine wpList_nil ?_
                    refine gw_nx ⟨_, ?_, j3 + 1, (nextL chs en wt at3 now3 last3 mo).at_, (nextL chs en wt at3 now3 last3 mo).now, (nextL chs en wt at3 now3 last3 mo).last, al3 ++ (nextL chs en wt at3 now3 last3 mo).b, A341, _, _, (HF356.pick (t := 18) rfl (HF356.pick (t := 17) rfl (HF356.pick (t := 7) rfl (HF356.pick (t := 8) rfl (HF356.pick (t := 2) rfl (HF356.pick (t := 5) rfl (HF356.pick (t := 6) rfl HF356.nil))))))), HO348.sel [0, 1, 9, 10, 2, 3, 4, 5, 6, 7] (by decide), ?_, ?_, ?_, ?_, rfl⟩
                    · rw [hm212]; (first | omega | ((try simp only [List.length_append, List.length_take, List.length_drop, List.length_nil, List.length_cons, List.length_set] at *); omega))
                    · (first | omega | ((try simp only [List.length_append, List.length_take, List.length_drop, List.length_nil, List.length_cons, List.length_set] at *); omega))
                    · exact hx2.1
                    · exact hx2.2
                    · exact hx1.1
                · skip
                  have HF357 := HF218.subst_ (d := 99) (b := false) rfl hb219
                  clear HF218
                  (try simp only [decide_eq_true_eq, decide_eq_false_iff_not, Bool.not_eq_true', Bool.not_eq_false', Bool.not_eq_true, Bool.not_eq_false, ne_eq, Decidable.not_not, Int.not_lt, Int.not_le, not_true_eq_false, not_false_eq_true, bne_iff_ne, beq_iff_eq, bne_eq_false_iff_eq, beq_eq_false_iff_ne] at hb219)
                  have FB := fin_end hrr3 ha3 (by (first | omega | ((try simp only [List.length_append, List.length_take, List.length_drop, List.length_nil, List.length_cons, List.length_set] at *); omega)))
                  refine wp_exit ?_
                  refine gw_thx ?_
                  refine gw_thx ?_
                  refine gw_in ?_
                  refine gw_nx (hK202 _ _ ?_)
                  refine gw_seq fun K358 hK358 => ?_
                  refine wp_region_lit ?_
                  refine gw_ev HF357 (want_none rfl) rfl (by decide) (op_field (gwfld48_0 _ _) rfl (HF357.ev rfl)) ?_
                  intro a359 HF360; clear HF357
                  refine gw_ev HF360 (want_none rfl) rfl (by decide) (op_load1 gwagg46 rfl (HF360.ev rfl) (blk_at (HO211.get 6 rfl) rfl)) ?_
                  intro a361 HF362; clear HF360
                  refine gw_ev HF362 (want_none rfl) rfl (by decide) (op_len Try.underlying46 rfl (HF362.ev rfl)) ?_
                  intro a363 HF364; clear HF362
                  refine gw_ev HF364 (want_none rfl) rfl (by decide) (op_gtr rfl (HF364.ev rfl) (ev_c _ _)) ?_
                  intro a365 HF366; clear HF364
                  refine gw_ev HF366 (want_none rfl) rfl (by decide) (op_move rfl (HF366.ev rfl)) ?_
                  intro a367 HF368; clear HF366
                  rcases Bool.eq_false_or_eq_true (decide (200 < (chs.length : Int))) with hb369 | hb369
                  · skip
                    have HF370 := HF368.subst_ (d := 117) (b := true) rfl hb369
                    clear HF368
                    (try simp only [decide_eq_true_eq, decide_eq_false_iff_not, Bool.not_eq_true', Bool.not_eq_false', Bool.not_eq_true, Bool.not_eq_false, ne_eq, Decidable.not_not, Int.not_lt, Int.not_le, not_true_eq_false, not_false_eq_true, bne_iff_ne, beq_iff_eq, bne_eq_false_iff_eq, beq_eq_false_iff_ne] at hb369)
                    refine gw_off HF370 (want_no HF370 rfl rfl rfl rfl (by decide)) rfl (by decide) ?_
                    intro a371 HF372; clear HF370
                    refine gw_off HF372 (want_no HF372 rfl rfl rfl rfl (by decide)) rfl (by decide) ?_
                    intro a373 HF374; clear HF372
                    refine gw_off HF374 (want_no HF374 rfl rfl rfl rfl (by decide)) rfl (by decide) ?_
                    intro a375 HF376; clear HF374
                    refine gw_off HF376 (want_no HF376 rfl rfl rfl rfl (by decide)) rfl (by decide) ?_
                    intro a377 HF378; clear HF376
                    refine gw_off HF378 (want_undef HF378 rfl rfl rfl rfl) rfl (by decide) ?_
                    intro a379 HF380; clear HF378
                    refine gw_off HF380 (want_undef HF380 rfl rfl rfl rfl) rfl (by decide) ?_
                    intro a381 HF382; clear HF380
                    refine gw_off HF382 (want_undef HF382 rfl rfl rfl rfl) rfl (by decide) ?_
                    intro a383 HF384; clear HF382
                    refine gw_off HF384 (want_undef HF384 rfl rfl rfl rfl) rfl (by decide) ?_
                    intro a385 HF386; clear HF384
                    refine gw_off HF386 (want_undef HF386 rfl rfl rfl rfl) rfl (by decide) ?_
                    intro a387 HF388; clear HF386
                    refine gw_off HF388 (want_no HF388 rfl rfl rfl rfl (by decide)) rfl (by decide) ?_
                    intro a389 HF390; clear HF388
                    refine gw_ev HF390 (want_none rfl) rfl (by decide) (op_pick_t rfl (HF390.ev rfl) (ev_c _ _)) ?_
                    intro a391 HF392; clear HF390
                    refine gw_ev HF392 (want_none rfl) rfl (by decide) (op_assign rfl (HF392.ev rfl)) ?_
                    intro a393 HF394; clear HF392
                    refine wpList_nil ?_
                    refine gw_nx (hK358 _ _ ?_)
                    refine wp_ret ?_
                    refine gw_ret1 HF394 rfl rfl ?_
                    exact ⟨rfl, HO211.below⟩
                  · skip
                    have HF395 := HF368.subst_ (d := 117) (b := false) rfl hb369
                    clear HF368
                    (try simp only [decide_eq_true_eq, decide_eq_false_iff_not, Bool.not_eq_true', Bool.not_eq_false', Bool.not_eq_true, Bool.not_eq_false, ne_eq, Decidable.not_not, Int.not_lt, Int.not_le, not_true_eq_false, not_false_eq_true, bne_iff_ne, beq_iff_eq, bne_eq_false_iff_eq, beq_eq_false_iff_ne] at hb369)
                    refine gw_ev HF395 (want_yes HF395 rfl rfl rfl rfl) rfl (by decide) (op_move rfl (HF395.ev rfl)) ?_
                    intro a396 HF397; clear HF395
                    refine gw_ev HF397 (want_yes HF397 rfl rfl rfl rfl) rfl (by decide) (op_move rfl (HF397.ev rfl)) ?_
                    intro a398 HF399; clear HF397
                    refine gw_call HF399 (want_yes HF399 rfl rfl rfl rfl) rfl (by decide) (op_callL Try.func18 (by kernel_rfl) rfl rfl (ar_cons (HF399.ev rfl) (ar_cons (HF399.ev rfl) ar_nil))) (same_calls Al2 cal2 al2 Al3 cal3 al3 _ (Kd.R_reads' (HO211.get 1 rfl)).2.2 (row_cap (HO211.get 1 rfl)) (Kd.R_reads' (HO211.get 0 rfl)).2.2 (row_cap (HO211.get 0 rfl)) (by first | omega | (have := reach_len hrr2 hsum; omega))) ?_
                    rintro e400 w401 ⟨rfl, hb402⟩
                    refine ⟨_, rfl, fun a403 HF404 => ?_⟩
                    have HO405 := HO211.after hb402
                    clear HF399 HO211 hb402
                    have HF407 := HF404.lit (b := true) (by rw [(fin_eq FA FB (by (first | omega | ((try simp only [List.length_append, List.length_take, List.length_drop, List.length_nil, List.length_cons, List.length_set] at *); omega)))).2]; simp)
                    clear HF404
                    refine gw_ev HF407 (want_yes HF407 rfl rfl rfl rfl) rfl (by decide) (op_move rfl (HF407.ev rfl)) ?_
                    intro a408 HF409; clear HF407
                    refine gw_ev HF409 (want_yes HF409 rfl rfl rfl rfl) rfl (by decide) (op_move rfl (HF409.ev rfl)) ?_
                    intro a410 HF411; clear HF409
                    refine gw_call HF411 (want_yes HF411 rfl rfl rfl rfl) rfl (by decide) (op_callL Try.func26 (by kernel_rfl) rfl rfl (ar_cons (HF411.ev rfl) ar_nil)) (GLine_.rest_calls l17 A18 c19 chs en wt ((nextL chs en wt at2 now2 last2 mo).at_) ((nextL chs en wt at2 now2 last2 mo).now) ((nextL chs en wt at2 now2 last2 mo).last) none 0 ([] : List Int) _ (HO405.get 8 rfl) (by (first | omega | ((try simp only [List.length_append, List.length_take, List.length_drop, List.length_nil, List.length_cons, List.length_set] at *); omega))) (by (first | omega | ((try simp only [List.length_append, List.length_take, List.length_drop, List.length_nil, List.length_cons, List.length_set] at *); omega))) (by (first | omega | ((try simp only [List.length_append, List.length_take, List.length_drop, List.length_nil, List.length_cons, List.length_set] at *); omega)))) ?_
                    rintro e412 w413 ⟨rfl, hb414⟩
                    refine ⟨_, rfl, fun a415 HF416 => ?_⟩
                    have HO417 := HO405.after hb414
                    clear HF411 HO405 hb414
                    refine gw_ev HF416 (want_yes HF416 rfl rfl rfl rfl) rfl (by decide) (op_move rfl (HF416.ev rfl)) ?_
                    intro a419 HF420; clear HF416
                    refine gw_call HF420 (want_yes HF420 rfl rfl rfl rfl) rfl (by decide) (op_callL Try.func26 (by kernel_rfl) rfl rfl (ar_cons (HF420.ev rfl) ar_nil)) (GLine_.rest_calls l31 A32 c33 chs en wt at3 now3 last3 none 0 ([] : List Int) _ (HO417.get 2 rfl) (by (first | omega | ((try simp only [List.length_append, List.length_take, List.length_drop, List.length_nil, List.length_cons, List.length_set] at *); omega))) (by (first | omega | ((try simp only [List.length_append, List.length_take, List.length_drop, List.length_nil, List.length_cons, List.length_set] at *); omega))) (by (first | omega | ((try simp only [List.length_append, List.length_take, List.length_drop, List.length_nil, List.length_cons, List.length_set] at *); omega)))) ?_
                    rintro e421 w422 ⟨rfl, hb423⟩
                    refine ⟨_, rfl, fun a424 HF425 => ?_⟩
                    have HO426 := HO417.after hb423
                    clear HF420 HO417 hb423
                    refine gw_ev HF425 (want_yes HF425 rfl rfl rfl rfl) rfl (by decide) (op_eqi rfl (HF425.ev rfl) (HF425.ev rfl)) ?_
                    intro a428 HF429; clear HF425
                    have HF430 := HF429.lit (b := true) (by rw [(fin_eq FA FB (by (first | omega | ((try simp only [List.length_append, List.length_take, List.length_drop, List.length_nil, List.length_cons, List.length_set] at *); omega)))).1]; simp)
                    clear HF429
                    refine gw_ev HF430 (want_yes HF430 rfl rfl rfl rfl) rfl (by decide) (op_pick_t rfl (HF430.ev rfl) (HF430.ev rfl)) ?_
                    intro a431 HF432; clear HF430
                    refine gw_ev HF432 (want_none rfl) rfl (by decide) (op_pick_f rfl (HF432.ev rfl) (HF432.ev rfl)) ?_
                    intro a433 HF434; clear HF432
                    refine gw_ev HF434 (want_none rfl) rfl (by decide) (op_assign rfl (HF434.ev rfl)) ?_
                    intro a435 HF436; clear HF434
                    refine wpList_nil ?_
                    refine gw_nx (hK358 _ _ ?_)
                    refine wp_ret ?_
                    refine gw_ret1 HF436 rfl rfl ?_
                    exact ⟨rfl, HO426.below⟩
            · skip
              have HF437 := HF189.subst_ (d := 93) (b := false) rfl hb190
              clear HF189
              (try simp only [decide_eq_true_eq, decide_eq_false_iff_not, Bool.not_eq_true', Bool.not_eq_false', Bool.not_eq_true, Bool.not_eq_false, ne_eq, Decidable.not_not, Int.not_lt, Int.not_le, not_true_eq_false, not_false_eq_true, bne_iff_ne, beq_iff_eq, bne_eq_false_iff_eq, beq_eq_false_iff_ne] at hb190)
              have hat1 := congrArg NX.at_ (next_one hb190).2.2
              refine wp_skip ?_
              refine gw_nx (hK184 _ _ ?_)
              refine wp_region_lit ?_
              refine gw_ev HF437 (want_none rfl) rfl (by decide) (op_move rfl (HF437.ev rfl)) ?_
              intro a438 HF439; clear HF437
              refine gw_ev HF439 (want_none rfl) rfl (by decide) (op_move rfl (HF439.ev rfl)) ?_
              intro a440 HF441; clear HF439
              refine gw_append (Kd.int .u8) 0 HF441 HO173 (want_none rfl) rfl (by decide) rfl Try.underlying26 gwinfo5 rfl (by decide) (by decide) rfl (HF441.ev rfl) (HF441.ev rfl) (Kd.R_reads' (HO173.get 6 rfl)).2.2 (fun _ _ h => h) HO173.below.size (by (first | omega | ((try simp only [List.length_append, List.length_take, List.length_drop, List.length_nil, List.length_cons, List.length_set] at *); omega))) ?_
              intro A442 c443 S444 a445 w446 HF447 HO448; clear HF441 HO173
              have HO449 : Own w w446 [Chunk.row (Kd.int .u8) 5 w.heap.size S444 (.slice A442 ((al2 ++ (nextL chs en wt at2 now2 last2 mo).b).length) c443) (al2 ++ (nextL chs en wt at2 now2 last2 mo).b), Chunk.blk l31 (.cells #[.slice A32 chs.length c33, .int .i64 en, .int .i64 wt, .int .i64 0, .int .i64 0, .int .i64 0, .slice none (([] : List Int).length) 0] 83 (0, 0)), Chunk.view k52 S34 A32 chs.length c33 chs, Chunk.row (Kd.int .u8) 5 w.heap.size (fun _ => False) (.slice none (([] : List Int).length) 0) ([] : List Int), Chunk.row (Kd.int .u8) 5 w.heap.size (fun _ => False) (.slice none (([] : List Int).length) 0) ([] : List Int), Chunk.blk g2 (.cells #[.slice A0_0 chs.length c0_0, .int .i64 en, .int .i64 wt] 48 (0, 0)), Chunk.row (Kd.int .u8) 5 w.heap.size S164 (.slice A162 ((nextL chs en wt at2 now2 last2 mo).b.length) c163) ((nextL chs en wt at2 now2 last2 mo).b), Chunk.blk l17 (.cells #[.slice A18 chs.length c19, .int .i64 en, .int .i64 wt, .int .i64 ((nextL chs en wt at2 now2 last2 mo).at_), .int .i64 ((nextL chs en wt at2 now2 last2 mo).now), .int .i64 ((nextL chs en wt at2 now2 last2 mo).last), .slice none (([] : List Int).length) 0] 83 (0, 0)), Chunk.view k52 S20 A18 chs.length c19 chs] := HO448
              clear HO448
              refine gw_ev HF447 (want_none rfl) rfl (by decide) (op_assign rfl (HF447.ev rfl)) ?_
              intro a450 HF451; clear HF447
              refine wpList_nil ?_
              refine gw_blk ?_
              refine gw_nx (hK156 _ _ ?_)
              refine wp_region_lit ?_
              refine gw_ev HF451 (want_none rfl) rfl (by decide) (op_move rfl (HF451.ev rfl)) ?_
              intro a452 HF453; clear HF451
              refine gw_ev HF453 (want_none rfl) rfl (by decide) (op_add rfl (HF453.ev rfl) (ev_c _ _) (by (first | omega | ((try simp only [List.length_append, List.length_take, List.length_drop, List.length_nil, List.length_cons, List.length_set] at *); omega)))) ?_
              intro a454 HF455; clear HF453
              refine gw_ev HF455 (want_none rfl) rfl (by decide) (op_assign rfl (HF455.ev rfl)) ?_
              intro a456 HF457; clear HF455
              refine wpList_nil ?_
              refine gw_nx ⟨_, ?_, j2 + 1, (nextL chs en wt at2 now2 last2 mo).at_, (nextL chs en wt at2 now2 last2 mo).now, (nextL chs en wt at2 now2 last2 mo).last, al2 ++ (nextL chs en wt at2 now2 last2 mo).b, A442, _, _, (HF457.pick (t := 14) rfl (HF457.pick (t := 7) rfl (HF457.pick (t := 8) rfl (HF457.pick (t := 2) rfl (HF457.pick (t := 5) rfl (HF457.pick (t := 6) rfl HF457.nil)))))), HO449.sel [0, 1, 2, 3, 7, 8, 4, 5] (by decide), ?_, ?_, ?_, ?_, rfl⟩
              · rw [hm147]; (first | omega | ((try simp only [List.length_append, List.length_take, List.length_drop, List.length_nil, List.length_cons, List.length_set] at *); omega))
              · (first | omega | ((try simp only [List.length_append, List.length_take, List.length_drop, List.length_nil, List.length_cons, List.length_set] at *); omega))
              · exact hx2.1
              · exact hx2.2
              · exact hx1.1
          · skip
            have HF458 := HF153.subst_ (d := 83) (b := false) rfl hb154
            clear HF153
            (try simp only [decide_eq_true_eq, decide_eq_false_iff_not, Bool.not_eq_true', Bool.not_eq_false', Bool.not_eq_true, Bool.not_eq_false, ne_eq, Decidable.not_not, Int.not_lt, Int.not_le, not_true_eq_false, not_false_eq_true, bne_iff_ne, beq_iff_eq, bne_eq_false_iff_eq, beq_eq_false_iff_ne] at hb154)
            have FA := fin_end hrr2 ha2 (by (first | omega | ((try simp only [List.length_append, List.length_take, List.length_drop, List.length_nil, List.length_cons, List.length_set] at *); omega)))
            refine wp_exit ?_
            refine gw_thx ?_
            refine gw_thx ?_
            refine gw_in ?_
            refine gw_nx (hK137 _ _ ?_)
            refine gw_seq fun K459 hK459 => ?_
            refine wp_region_lit ?_
            refine gw_lit (enc := Value.int .u8) (fun _ => rfl) (xs := ([] : List Int)) (e := 5) HF458 HO146 (want_none rfl) rfl (by decide) (op_bslice (by kernel_rfl) rfl pt_nil) (by simp) ?_
            intro A460 S461 a462 w463 HF464 HO465; clear HF458 HO146
            have HO466 : Own w w463 [Chunk.row (Kd.int .u8) 5 w.heap.size S461 (.slice A460 ((([] : List Int)).length) ((([] : List Int)).length)) ([] : List Int), Chunk.row (Kd.int .u8) 5 w.heap.size Sl2 (.slice Al2 al2.length cal2) al2, Chunk.blk l31 (.cells #[.slice A32 chs.length c33, .int .i64 en, .int .i64 wt, .int .i64 0, .int .i64 0, .int .i64 0, .slice none (([] : List Int).length) 0] 83 (0, 0)), Chunk.view k52 S34 A32 chs.length c33 chs, Chunk.row (Kd.int .u8) 5 w.heap.size (fun _ => False) (.slice none (([] : List Int).length) 0) ([] : List Int), Chunk.blk l17 (.cells #[.slice A18 chs.length c19, .int .i64 en, .int .i64 wt, .int .i64 at2, .int .i64 now2, .int .i64 last2, .slice none (([] : List Int).length) 0] 83 (0, 0)), Chunk.view k52 S20 A18 chs.length c19 chs, Chunk.row (Kd.int .u8) 5 w.heap.size (fun _ => False) (.slice none (([] : List Int).length) 0) ([] : List Int), Chunk.blk g2 (.cells #[.slice A0_0 chs.length c0_0, .int .i64 en, .int .i64 wt] 48 (0, 0))] := HO465
            clear HO465
            refine gw_ev HF464 (want_none rfl) rfl (by decide) (op_assign rfl (HF464.ev rfl)) ?_
            intro a467 HF468; clear HF464
            refine wpList_nil ?_
            refine gw_nx (hK459 _ _ ?_)
            refine gw_seq fun K469 hK469 => ?_
            refine gw_seq fun K470 hK470 => ?_
            refine wp_region_lit ?_
            refine gw_ev HF468 (want_none rfl) rfl (by decide) (op_assign rfl (ev_c _ _)) ?_
            intro a471 HF472; clear HF468
            refine wpList_nil ?_
            refine gw_nx (hK470 _ _ ?_)
            refine wp_block ?_
            refine gw_loop (fun m_ a_ w_ => ∃ (j3 : Int) (at3 : Int) (now3 : Int) (last3 : Int) (al3 : List Int) (Al3 : Option Addr) (cal3 : Nat) (Sl3 : Nat → Prop), Fr 129 a_ [(18, .int .i64 j3), (17, .slice Al3 al3.length cal3), (7, .slice Al2 al2.length cal2), (8, .int .i64 mo), (2, .pointer (some ⟨g2, 0, none⟩)), (5, .pointer (some ⟨l17, 0, none⟩)), (6, .pointer (some ⟨l31, 0, none⟩))] ∧ Own w w_ [Chunk.row (Kd.int .u8) 5 w.heap.size Sl3 (.slice Al3 al3.length cal3) al3, Chunk.row (Kd.int .u8) 5 w.heap.size Sl2 (.slice Al2 al2.length cal2) al2, Chunk.blk l31 (.cells #[.slice A32 chs.length c33, .int .i64 en, .int .i64 wt, .int .i64 at3, .int .i64 now3, .int .i64 last3, .slice none (([] : List Int).length) 0] 83 (0, 0)), Chunk.view k52 S34 A32 chs.length c33 chs, Chunk.row (Kd.int .u8) 5 w.heap.size (fun _ => False) (.slice none (([] : List Int).length) 0) ([] : List Int), Chunk.blk l17 (.cells #[.slice A18 chs.length c19, .int .i64 en, .int .i64 wt, .int .i64 at2, .int .i64 now2, .int .i64 last2, .slice none (([] : List Int).length) 0] 83 (0, 0)), Chunk.view k52 S20 A18 chs.length c19 chs, Chunk.row (Kd.int .u8) 5 w.heap.size (fun _ => False) (.slice none (([] : List Int).length) 0) ([] : List Int), Chunk.blk g2 (.cells #[.slice A0_0 chs.length c0_0, .int .i64 en, .int .i64 wt] 48 (0, 0))] ∧ (0 ≤ j3 ∧ j3 ≤ 300 ∧ j3 ≤ at3) ∧ (0 ≤ at3 ∧ at3 ≤ chs.length) ∧ (0 ≤ last3 ∧ last3 ≤ 1000000 * at3) ∧ (Reach chs at3 now3 last3 al3 mo) ∧ m_ = (300 - j3.toNat)) ((300 - (0 : Int).toNat)) ?_ ?_
            · refine ⟨0, 0, 0, 0, [], A460, _, _, (HF472.pick (t := 18) rfl (HF472.pick (t := 17) rfl (HF472.pick (t := 7) rfl (HF472.pick (t := 8) rfl (HF472.pick (t := 2) rfl (HF472.pick (t := 5) rfl (HF472.pick (t := 6) rfl HF472.nil))))))), HO466.sel [0, 1, 2, 3, 4, 5, 6, 7, 8] (by decide), ?_, ?_, ?_, ?_, rfl⟩
              · (first | omega | ((try simp only [List.length_append, List.length_take, List.length_drop, List.length_nil, List.length_cons, List.length_set] at *); omega))
              · (first | omega | ((try simp only [List.length_append, List.length_take, List.length_drop, List.length_nil, List.length_cons, List.length_set] at *); omega))
              · (first | omega | ((try simp only [List.length_append, List.length_take, List.length_drop, List.length_nil, List.length_cons, List.length_set] at *); omega))
              · exact ⟨by simp [lastL], by simp [bytesL], by (first | omega | ((try simp only [List.length_append, List.length_take, List.length_drop, List.length_nil, List.length_cons, List.length_set] at *); omega)), by (first | omega | ((try simp only [List.length_append, List.length_take, List.length_drop, List.length_nil, List.length_cons, List.length_set] at *); omega)), by (first | omega | ((try simp only [List.length_append, List.length_take, List.length_drop, List.length_nil, List.length_cons, List.length_set] at *); omega))⟩
            · rintro m474 a475 w476 ⟨j3, at3, now3, last3, al3, Al3, cal3, Sl3, HF477, HO478, hi3, ha3, hl3, hrr3, hm479⟩
              refine gw_seq fun K480 hK480 => ?_
              refine gw_seq fun K481 hK481 => ?_
              refine wp_region_lit ?_
              refine gw_ev HF477 (want_none rfl) rfl (by decide) (op_move rfl (HF477.ev rfl)) ?_
              intro a482 HF483; clear HF477
              refine gw_ev HF483 (want_none rfl) rfl (by decide) (op_lss rfl (HF483.ev rfl) (ev_c _ _)) ?_
              intro a484 HF485; clear HF483
              refine wpList_nil ?_
              refine gw_nx (hK481 _ _ ?_)
              refine gw_cond HF485 rfl (fun hb486 => ?_) (fun hb486 => ?_)
              · skip
                have HF487 := HF485.subst_ (d := 99) (b := true) rfl hb486
                clear HF485
                (try simp only [decide_eq_true_eq, decide_eq_false_iff_not, Bool.not_eq_true', Bool.not_eq_false', Bool.not_eq_true, Bool.not_eq_false, ne_eq, Decidable.not_not, Int.not_lt, Int.not_le, not_true_eq_false, not_false_eq_true, bne_iff_ne, beq_iff_eq, bne_eq_false_iff_eq, beq_eq_false_iff_ne] at hb486)
                refine wp_skip ?_
                refine gw_nx (hK480 _ _ ?_)
                refine gw_seq fun K488 hK488 => ?_
                refine wp_block ?_
                refine gw_seq fun K489 hK489 => ?_
                refine wp_region_lit ?_
                refine gw_ev HF487 (want_none rfl) rfl (by decide) (op_move rfl (HF487.ev rfl)) ?_
                intro a490 HF491; clear HF487
                refine gw_ev HF491 (want_none rfl) rfl (by decide) (op_move rfl (HF491.ev rfl)) ?_
                intro a492 HF493; clear HF491
                have HO503 : Own w _ [(Chunk.all [Chunk.row (Kd.int .u8) 5 w.heap.size Sl3 (.slice Al3 al3.length cal3) al3, Chunk.row (Kd.int .u8) 5 w.heap.size Sl2 (.slice Al2 al2.length cal2) al2, Chunk.row (Kd.int .u8) 5 w.heap.size (fun _ => False) (.slice none (([] : List Int).length) 0) ([] : List Int), Chunk.blk l17 (.cells #[.slice A18 chs.length c19, .int .i64 en, .int .i64 wt, .int .i64 at2, .int .i64 now2, .int .i64 last2, .slice none (([] : List Int).length) 0] 83 (0, 0)), Chunk.view k52 S20 A18 chs.length c19 chs, Chunk.row (Kd.int .u8) 5 w.heap.size (fun _ => False) (.slice none (([] : List Int).length) 0) ([] : List Int), Chunk.blk g2 (.cells #[.slice A0_0 chs.length c0_0, .int .i64 en, .int .i64 wt] 48 (0, 0))]), Chunk.blk l31 (.cells #[.slice A32 chs.length c33, .int .i64 en, .int .i64 wt, .int .i64 at3, .int .i64 now3, .int .i64 last3, .slice none (([] : List Int).length) 0] 83 (0, 0)), Chunk.view k52 S34 A32 chs.length c33 chs] := Own.bundle (A := [Chunk.row (Kd.int .u8) 5 w.heap.size Sl3 (.slice Al3 al3.length cal3) al3, Chunk.row (Kd.int .u8) 5 w.heap.size Sl2 (.slice Al2 al2.length cal2) al2, Chunk.row (Kd.int .u8) 5 w.heap.size (fun _ => False) (.slice none (([] : List Int).length) 0) ([] : List Int), Chunk.blk l17 (.cells #[.slice A18 chs.length c19, .int .i64 en, .int .i64 wt, .int .i64 at2, .int .i64 now2, .int .i64 last2, .slice none (([] : List Int).length) 0] 83 (0, 0)), Chunk.view k52 S20 A18 chs.length c19 chs, Chunk.row (Kd.int .u8) 5 w.heap.size (fun _ => False) (.slice none (([] : List Int).length) 0) ([] : List Int), Chunk.blk g2 (.cells #[.slice A0_0 chs.length c0_0, .int .i64 en, .int .i64 wt] 48 (0, 0))]) (L := [Chunk.blk l31 (.cells #[.slice A32 chs.length c33, .int .i64 en, .int .i64 wt, .int .i64 at3, .int .i64 now3, .int .i64 last3, .slice none (([] : List Int).length) 0] 83 (0, 0)), Chunk.view k52 S34 A32 chs.length c33 chs]) (HO478.sel [0, 1, 4, 5, 6, 7, 8, 2, 3] (by decide))
                refine gw_call HF493 (want_none rfl) rfl (by decide) (op_callL Try.func24 (by kernel_rfl) rfl rfl (ar_cons (HF493.ev rfl) (ar_cons (HF493.ev rfl) ar_nil))) (GLine_.next_calls w _ (Chunk.all [Chunk.row (Kd.int .u8) 5 w.heap.size Sl3 (.slice Al3 al3.length cal3) al3, Chunk.row (Kd.int .u8) 5 w.heap.size Sl2 (.slice Al2 al2.length cal2) al2, Chunk.row (Kd.int .u8) 5 w.heap.size (fun _ => False) (.slice none (([] : List Int).length) 0) ([] : List Int), Chunk.blk l17 (.cells #[.slice A18 chs.length c19, .int .i64 en, .int .i64 wt, .int .i64 at2, .int .i64 now2, .int .i64 last2, .slice none (([] : List Int).length) 0] 83 (0, 0)), Chunk.view k52 S20 A18 chs.length c19 chs, Chunk.row (Kd.int .u8) 5 w.heap.size (fun _ => False) (.slice none (([] : List Int).length) 0) ([] : List Int), Chunk.blk g2 (.cells #[.slice A0_0 chs.length c0_0, .int .i64 en, .int .i64 wt] 48 (0, 0))]) l31 A32 c33 chs en wt at3 now3 last3 none 0 ([] : List Int) S34 mo (by (first | omega | ((try simp only [List.length_append, List.length_take, List.length_drop, List.length_nil, List.length_cons, List.length_set] at *); omega))) (by (first | omega | ((try simp only [List.length_append, List.length_take, List.length_drop, List.length_nil, List.length_cons, List.length_set] at *); omega))) (by (first | omega | ((try simp only [List.length_append, List.length_take, List.length_drop, List.length_nil, List.length_cons, List.length_set] at *); omega))) hz HO503) ?_
                rintro e497 w498 ⟨A494, c495, S496, rfl, hb499⟩
                refine ⟨_, rfl, fun a500 HF501 => ?_⟩
                have HO502 : Own w w498 [Chunk.row (Kd.int .u8) 5 w.heap.size Sl3 (.slice Al3 al3.length cal3) al3, Chunk.row (Kd.int .u8) 5 w.heap.size Sl2 (.slice Al2 al2.length cal2) al2, Chunk.row (Kd.int .u8) 5 w.heap.size (fun _ => False) (.slice none (([] : List Int).length) 0) ([] : List Int), Chunk.blk l17 (.cells #[.slice A18 chs.length c19, .int .i64 en, .int .i64 wt, .int .i64 at2, .int .i64 now2, .int .i64 last2, .slice none (([] : List Int).length) 0] 83 (0, 0)), Chunk.view k52 S20 A18 chs.length c19 chs, Chunk.row (Kd.int .u8) 5 w.heap.size (fun _ => False) (.slice none (([] : List Int).length) 0) ([] : List Int), Chunk.blk g2 (.cells #[.slice A0_0 chs.length c0_0, .int .i64 en, .int .i64 wt] 48 (0, 0)), Chunk.row (Kd.int .u8) 5 w.heap.size S496 (.slice A494 ((nextL chs en wt at3 now3 last3 mo).b.length) c495) ((nextL chs en wt at3 now3 last3 mo).b), Chunk.blk l31 (.cells #[.slice A32 chs.length c33, .int .i64 en, .int .i64 wt, .int .i64 ((nextL chs en wt at3 now3 last3 mo).at_), .int .i64 ((nextL chs en wt at3 now3 last3 mo).now), .int .i64 ((nextL chs en wt at3 now3 last3 mo).last), .slice none (([] : List Int).length) 0] 83 (0, 0)), Chunk.view k52 S34 A32 chs.length c33 chs] := Own.unbundle (A := [Chunk.row (Kd.int .u8) 5 w.heap.size Sl3 (.slice Al3 al3.length cal3) al3, Chunk.row (Kd.int .u8) 5 w.heap.size Sl2 (.slice Al2 al2.length cal2) al2, Chunk.row (Kd.int .u8) 5 w.heap.size (fun _ => False) (.slice none (([] : List Int).length) 0) ([] : List Int), Chunk.blk l17 (.cells #[.slice A18 chs.length c19, .int .i64 en, .int .i64 wt, .int .i64 at2, .int .i64 now2, .int .i64 last2, .slice none (([] : List Int).length) 0] 83 (0, 0)), Chunk.view k52 S20 A18 chs.length c19 chs, Chunk.row (Kd.int .u8) 5 w.heap.size (fun _ => False) (.slice none (([] : List Int).length) 0) ([] : List Int), Chunk.blk g2 (.cells #[.slice A0_0 chs.length c0_0, .int .i64 en, .int .i64 wt] 48 (0, 0))]) (L := [Chunk.row (Kd.int .u8) 5 w.heap.size S496 (.slice A494 ((nextL chs en wt at3 now3 last3 mo).b.length) c495) ((nextL chs en wt at3 now3 last3 mo).b), Chunk.blk l31 (.cells #[.slice A32 chs.length c33, .int .i64 en, .int .i64 wt, .int .i64 ((nextL chs en wt at3 now3 last3 mo).at_), .int .i64 ((nextL chs en wt at3 now3 last3 mo).now), .int .i64 ((nextL chs en wt at3 now3 last3 mo).last), .slice none (([] : List Int).length) 0] 83 (0, 0)), Chunk.view k52 S34 A32 chs.length c33 chs]) (hb499.sel [1, 0, 2, 3] (by decide))
                clear HO503
                clear HF493 HO478 hb499
                have HO505 : Own w w498 [Chunk.row (Kd.int .u8) 5 w.heap.size Sl3 (.slice Al3 al3.length cal3) al3, Chunk.row (Kd.int .u8) 5 w.heap.size Sl2 (.slice Al2 al2.length cal2) al2, Chunk.row (Kd.int .u8) 5 w.heap.size (fun _ => False) (.slice none (([] : List Int).length) 0) ([] : List Int), Chunk.blk l17 (.cells #[.slice A18 chs.length c19, .int .i64 en, .int .i64 wt, .int .i64 at2, .int .i64 now2, .int .i64 last2, .slice none (([] : List Int).length) 0] 83 (0, 0)), Chunk.view k52 S20 A18 chs.length c19 chs, Chunk.row (Kd.int .u8) 5 w.heap.size (fun _ => False) (.slice none (([] : List Int).length) 0) ([] : List Int), Chunk.blk g2 (.cells #[.slice A0_0 chs.length c0_0, .int .i64 en, .int .i64 wt] 48 (0, 0)), Chunk.row (Kd.int .u8) 5 w.heap.size S496 (.slice A494 ((nextL chs en wt at3 now3 last3 mo).b.length) c495) ((nextL chs en wt at3 now3 last3 mo).b), Chunk.blk l31 (.cells #[.slice A32 chs.length c33, .int .i64 en, .int .i64 wt, .int .i64 ((nextL chs en wt at3 now3 last3 mo).at_), .int .i64 ((nextL chs en wt at3 now3 last3 mo).now), .int .i64 ((nextL chs en wt at3 now3 last3 mo).last), .slice none (([] : List Int).length) 0] 83 (0, 0)), Chunk.view k52 S34 A32 chs.length c33 chs] := HO502
                clear HO502
                refine gw_ev HF501 (want_none rfl) rfl (by decide) (op_move rfl (HF501.ev rfl)) ?_
                intro a506 HF507; clear HF501
                have hx1 := reach_next (en := en) (wt := wt) (lim := mo) (most' := mo) hrr3 ha3 (Int.le_refl _) (Int.le_refl _)
                have hx2 := next_st chs en wt at3 now3 last3 mo ha3 hl3
                have hx3 := reach_len hx1.1 hsum
                rw [List.length_append] at hx3
                refine gw_ev HF507 (want_none rfl) rfl (by decide) (op_extract rfl (HF507.ev rfl) rfl) ?_
                intro a508 HF509; clear HF507
                refine gw_ev HF509 (want_none rfl) rfl (by decide) (op_extract rfl (HF509.ev rfl) rfl) ?_
                intro a510 HF511; clear HF509
                refine gw_ev HF511 (want_none rfl) rfl (by decide) (op_assign rfl (HF511.ev rfl)) ?_
                intro a512 HF513; clear HF511
                refine gw_ev HF513 (want_none rfl) rfl (by decide) (op_assign rfl (HF513.ev rfl)) ?_
                intro a514 HF515; clear HF513
                refine wpList_nil ?_
                refine gw_nx (hK489 _ _ ?_)
                refine gw_seq fun K516 hK516 => ?_
                refine gw_seq fun K517 hK517 => ?_
                refine wp_region_lit ?_
                refine gw_ev HF515 (want_none rfl) rfl (by decide) (op_move rfl (HF515.ev rfl)) ?_
                intro a518 HF519; clear HF515
                refine gw_ev HF519 (want_none rfl) rfl (by decide) (op_nei rfl (HF519.ev rfl) (ev_c _ _)) ?_
                intro a520 HF521; clear HF519
                refine wpList_nil ?_
                refine gw_nx (hK517 _ _ ?_)
                refine gw_cond HF521 rfl (fun hb522 => ?_) (fun hb522 => ?_)
                · skip
                  have HF523 := HF521.subst_ (d := 109) (b := true) rfl hb522
                  clear HF521
                  (try simp only [decide_eq_true_eq, decide_eq_false_iff_not, Bool.not_eq_true', Bool.not_eq_false', Bool.not_eq_true, Bool.not_eq_false, ne_eq, Decidable.not_not, Int.not_lt, Int.not_le, not_true_eq_false, not_false_eq_true, bne_iff_ne, beq_iff_eq, bne_eq_false_iff_eq, beq_eq_false_iff_ne] at hb522)
                  have FB := fin_stop hrr3 ha3 hb522
                  refine wp_exit ?_
                  refine gw_thx ?_
                  refine gw_out (by decide) ?_
                  refine gw_thx ?_
                  refine gw_thx ?_
                  refine gw_in ?_
                  refine gw_nx (hK469 _ _ ?_)
                  refine gw_seq fun K524 hK524 => ?_
                  refine wp_region_lit ?_
                  refine gw_ev HF523 (want_none rfl) rfl (by decide) (op_field (gwfld48_0 _ _) rfl (HF523.ev rfl)) ?_
                  intro a525 HF526; clear HF523
                  refine gw_ev HF526 (want_none rfl) rfl (by decide) (op_load1 gwagg46 rfl (HF526.ev rfl) (blk_at (HO505.get 6 rfl) rfl)) ?_
                  intro a527 HF528; clear HF526
                  refine gw_ev HF528 (want_none rfl) rfl (by decide) (op_len Try.underlying46 rfl (HF528.ev rfl)) ?_
                  intro a529 HF530; clear HF528
                  refine gw_ev HF530 (want_none rfl) rfl (by decide) (op_gtr rfl (HF530.ev rfl) (ev_c _ _)) ?_
                  intro a531 HF532; clear HF530
                  refine gw_ev HF532 (want_none rfl) rfl (by decide) (op_move rfl (HF532.ev rfl)) ?_
                  intro a533 HF534; clear HF532
                  rcases Bool.eq_false_or_eq_true (decide (200 < (chs.length : Int))) with hb535 | hb535
                  · skip
                    have HF536 := HF534.subst_ (d := 117) (b := true) rfl hb535
                    clear HF534
                    (try simp only [decide_eq_true_eq, decide_eq_false_iff_not, Bool.not_eq_true', Bool.not_eq_false', Bool.not_eq_true, Bool.not_eq_false, ne_eq, Decidable.not_not, Int.not_lt, Int.not_le, not_true_eq_false, not_false_eq_true, bne_iff_ne, beq_iff_eq, bne_eq_false_iff_eq, beq_eq_false_iff_ne] at hb535)
                    refine gw_off HF536 (want_no HF536 rfl rfl rfl rfl (by decide)) rfl (by decide) ?_
                    intro a537 HF538; clear HF536
                    refine gw_off HF538 (want_no HF538 rfl rfl rfl rfl (by decide)) rfl (by decide) ?_
                    intro a539 HF540; clear HF538
                    refine gw_off HF540 (want_no HF540 rfl rfl rfl rfl (by decide)) rfl (by decide) ?_
                    intro a541 HF542; clear HF540
                    refine gw_off HF542 (want_no HF542 rfl rfl rfl rfl (by decide)) rfl (by decide) ?_
                    intro a543 HF544; clear HF542
                    refine gw_off HF544 (want_undef HF544 rfl rfl rfl rfl) rfl (by decide) ?_
                    intro a545 HF546; clear HF544
                    refine gw_off HF546 (want_undef HF546 rfl rfl rfl rfl) rfl (by decide) ?_
                    intro a547 HF548; clear HF546
                    refine gw_off HF548 (want_undef HF548 rfl rfl rfl rfl) rfl (by decide) ?_
                    intro a549 HF550; clear HF548
                    refine gw_off HF550 (want_undef HF550 rfl rfl rfl rfl) rfl (by decide) ?_
                    intro a551 HF552; clear HF550
                    refine gw_off HF552 (want_undef HF552 rfl rfl rfl rfl) rfl (by decide) ?_
                    intro a553 HF554; clear HF552
                    refine gw_off HF554 (want_no HF554 rfl rfl rfl rfl (by decide)) rfl (by decide) ?_
                    intro a555 HF556; clear HF554
                    refine gw_ev HF556 (want_none rfl) rfl (by decide) (op_pick_t rfl (HF556.ev rfl) (ev_c _ _)) ?_
                    intro a557 HF558; clear HF556
                    refine gw_ev HF558 (want_none rfl) rfl (by decide) (op_assign rfl (HF558.ev rfl)) ?_
                    intro a559 HF560; clear HF558
                    refine wpList_nil ?_
                    refine gw_nx (hK524 _ _ ?_)
                    refine wp_ret ?_
                    refine gw_ret1 HF560 rfl rfl ?_
                    exact ⟨rfl, HO505.below⟩
                  · skip
                    have HF561 := HF534.subst_ (d := 117) (b := false) rfl hb535
                    clear HF534
                    (try simp only [decide_eq_true_eq, decide_eq_false_iff_not, Bool.not_eq_true', Bool.not_eq_false', Bool.not_eq_true, Bool.not_eq_false, ne_eq, Decidable.not_not, Int.not_lt, Int.not_le, not_true_eq_false, not_false_eq_true, bne_iff_ne, beq_iff_eq, bne_eq_false_iff_eq, beq_eq_false_iff_ne] at hb535)
                    refine gw_ev HF561 (want_yes HF561 rfl rfl rfl rfl) rfl (by decide) (op_move rfl (HF561.ev rfl)) ?_
                    intro a562 HF563; clear HF561
                    refine gw_ev HF563 (want_yes HF563 rfl rfl rfl rfl) rfl (by decide) (op_move rfl (HF563.ev rfl)) ?_
                    intro a564 HF565; clear HF563
                    refine gw_call HF565 (want_yes HF565 rfl rfl rfl rfl) rfl (by decide) (op_callL Try.func18 (by kernel_rfl) rfl rfl (ar_cons (HF565.ev rfl) (ar_cons (HF565.ev rfl) ar_nil))) (same_calls Al2 cal2 al2 Al3 cal3 al3 _ (Kd.R_reads' (HO505.get 1 rfl)).2.2 (row_cap (HO505.get 1 rfl)) (Kd.R_reads' (HO505.get 0 rfl)).2.2 (row_cap (HO505.get 0 rfl)) (by first | omega | (have := reach_len hrr2 hsum; omega))) ?_
                    rintro e566 w567 ⟨rfl, hb568⟩
                    refine ⟨_, rfl, fun a569 HF570 => ?_⟩
                    have HO571 := HO505.after hb568
                    clear HF565 HO505 hb568
                    have HF573 := HF570.lit (b := true) (by rw [(fin_eq FA FB (by (first | omega | ((try simp only [List.length_append, List.length_take, List.length_drop, List.length_nil, List.length_cons, List.length_set] at *); omega)))).2]; simp)
                    clear HF570
                    refine gw_ev HF573 (want_yes HF573 rfl rfl rfl rfl) rfl (by decide) (op_move rfl (HF573.ev rfl)) ?_
                    intro a574 HF575; clear HF573
                    refine gw_ev HF575 (want_yes HF575 rfl rfl rfl rfl) rfl (by decide) (op_move rfl (HF575.ev rfl)) ?_
                    intro a576 HF577; clear HF575
                    refine gw_call HF577 (want_yes HF577 rfl rfl rfl rfl) rfl (by decide) (op_callL Try.func26 (by kernel_rfl) rfl rfl (ar_cons (HF577.ev rfl) ar_nil)) (GLine_.rest_calls l17 A18 c19 chs en wt at2 now2 last2 none 0 ([] : List Int) _ (HO571.get 3 rfl) (by (first | omega | ((try simp only [List.length_append, List.length_take, List.length_drop, List.length_nil, List.length_cons, List.length_set] at *); omega))) (by (first | omega | ((try simp only [List.length_append, List.length_take, List.length_drop, List.length_nil, List.length_cons, List.length_set] at *); omega))) (by (first | omega | ((try simp only [List.length_append, List.length_take, List.length_drop, List.length_nil, List.length_cons, List.length_set] at *); omega)))) ?_
                    rintro e578 w579 ⟨rfl, hb580⟩
                    refine ⟨_, rfl, fun a581 HF582 => ?_⟩
                    have HO583 := HO571.after hb580
                    clear HF577 HO571 hb580
                    refine gw_ev HF582 (want_yes HF582 rfl rfl rfl rfl) rfl (by decide) (op_move rfl (HF582.ev rfl)) ?_
                    intro a585 HF586; clear HF582
                    refine gw_call HF586 (want_yes HF586 rfl rfl rfl rfl) rfl (by decide) (op_callL Try.func26 (by kernel_rfl) rfl rfl (ar_cons (HF586.ev rfl) ar_nil)) (GLine_.rest_calls l31 A32 c33 chs en wt ((nextL chs en wt at3 now3 last3 mo).at_) ((nextL chs en wt at3 now3 last3 mo).now) ((nextL chs en wt at3 now3 last3 mo).last) none 0 ([] : List Int) _ (HO583.get 8 rfl) (by (first | omega | ((try simp only [List.length_append, List.length_take, List.length_drop, List.length_nil, List.length_cons, List.length_set] at *); omega))) (by (first | omega | ((try simp only [List.length_append, List.length_take, List.length_drop, List.length_nil, List.length_cons, List.length_set] at *); omega))) (by (first | omega | ((try simp only [List.length_append, List.length_take, List.length_drop, List.length_nil, List.length_cons, List.length_set] at *); omega)))) ?_
                    rintro e587 w588 ⟨rfl, hb589⟩
                    refine ⟨_, rfl, fun a590 HF591 => ?_⟩
                    have HO592 := HO583.after hb589
                    clear HF586 HO583 hb589
                    refine gw_ev HF591 (want_yes HF591 rfl rfl rfl rfl) rfl (by decide) (op_eqi rfl (HF591.ev rfl) (HF591.ev rfl)) ?_
                    intro a594 HF595; clear HF591
                    have HF596 := HF595.lit (b := true) (by rw [(fin_eq FA FB (by (first | omega | ((try simp only [List.length_append, List.length_take, List.length_drop, List.length_nil, List.length_cons, List.length_set] at *); omega)))).1]; simp)
                    clear HF595
                    refine gw_ev HF596 (want_yes HF596 rfl rfl rfl rfl) rfl (by decide) (op_pick_t rfl (HF596.ev rfl) (HF596.ev rfl)) ?_
                    intro a597 HF598; clear HF596
                    refine gw_ev HF598 (want_none rfl) rfl (by decide) (op_pick_f rfl (HF598.ev rfl) (HF598.ev rfl)) ?_
                    intro a599 HF600; clear HF598
                    refine gw_ev HF600 (want_none rfl) rfl (by decide) (op_assign rfl (HF600.ev rfl)) ?_
                    intro a601 HF602; clear HF600
                    refine wpList_nil ?_
                    refine gw_nx (hK524 _ _ ?_)
                    refine wp_ret ?_
                    refine gw_ret1 HF602 rfl rfl ?_
                    exact ⟨rfl, HO592.below⟩
                · skip
                  have HF603 := HF521.subst_ (d := 109) (b := false) rfl hb522
                  clear HF521
                  (try simp only [decide_eq_true_eq, decide_eq_false_iff_not, Bool.not_eq_true', Bool.not_eq_false', Bool.not_eq_true, Bool.not_eq_false, ne_eq, Decidable.not_not, Int.not_lt, Int.not_le, not_true_eq_false, not_false_eq_true, bne_iff_ne, beq_iff_eq, bne_eq_false_iff_eq, beq_eq_false_iff_ne] at hb522)
                  have hat1 := congrArg NX.at_ (next_one hb522).2.2
                  refine wp_skip ?_
                  refine gw_nx (hK516 _ _ ?_)
                  refine wp_region_lit ?_
                  refine gw_ev HF603 (want_none rfl) rfl (by decide) (op_move rfl (HF603.ev rfl)) ?_
                  intro a604 HF605; clear HF603
                  refine gw_ev HF605 (want_none rfl) rfl (by decide) (op_move rfl (HF605.ev rfl)) ?_
                  intro a606 HF607; clear HF605
                  refine gw_append (Kd.int .u8) 0 HF607 HO505 (want_none rfl) rfl (by decide) rfl Try.underlying26 gwinfo5 rfl (by decide) (by decide) rfl (HF607.ev rfl) (HF607.ev rfl) (Kd.R_reads' (HO505.get 7 rfl)).2.2 (fun _ _ h => h) HO505.below.size (by (first | omega | ((try simp only [List.length_append, List.length_take, List.length_drop, List.length_nil, List.length_cons, List.length_set] at *); omega))) ?_
                  intro A608 c609 S610 a611 w612 HF613 HO614; clear HF607 HO505
                  have HO615 : Own w w612 [Chunk.row (Kd.int .u8) 5 w.heap.size S610 (.slice A608 ((al3 ++ (nextL chs en wt at3 now3 last3 mo).b).length) c609) (al3 ++ (nextL chs en wt at3 now3 last3 mo).b), Chunk.row (Kd.int .u8) 5 w.heap.size Sl2 (.slice Al2 al2.length cal2) al2, Chunk.row (Kd.int .u8) 5 w.heap.size (fun _ => False) (.slice none (([] : List Int).length) 0) ([] : List Int), Chunk.blk l17 (.cells #[.slice A18 chs.length c19, .int .i64 en, .int .i64 wt, .int .i64 at2, .int .i64 now2, .int .i64 last2, .slice none (([] : List Int).length) 0] 83 (0, 0)), Chunk.view k52 S20 A18 chs.length c19 chs, Chunk.row (Kd.int .u8) 5 w.heap.size (fun _ => False) (.slice none (([] : List Int).length) 0) ([] : List Int), Chunk.blk g2 (.cells #[.slice A0_0 chs.length c0_0, .int .i64 en, .int .i64 wt] 48 (0, 0)), Chunk.row (Kd.int .u8) 5 w.heap.size S496 (.slice A494 ((nextL chs en wt at3 now3 last3 mo).b.length) c495) ((nextL chs en wt at3 now3 last3 mo).b), Chunk.blk l31 (.cells #[.slice A32 chs.length c33, .int .i64 en, .int .i64 wt, .int .i64 ((nextL chs en wt at3 now3 last3 mo).at_), .int .i64 ((nextL chs en wt at3 now3 last3 mo).now), .int .i64 ((nextL chs en wt at3 now3 last3 mo).last), .slice none (([] : List Int).length) 0] 83 (0, 0)), Chunk.view k52 S34 A32 chs.length c33 chs] := HO614
                  clear HO614
                  refine gw_ev HF613 (want_none rfl) rfl (by decide) (op_assign rfl (HF613.ev rfl)) ?_
                  intro a616 HF617; clear HF613
                  refine wpList_nil ?_
                  refine gw_blk ?_
                  refine gw_nx (hK488 _ _ ?_)
                  refine wp_region_lit ?_
                  refine gw_ev HF617 (want_none rfl) rfl (by decide) (op_move rfl (HF617.ev rfl)) ?_
                  intro a618 HF619; clear HF617
                  refine gw_ev HF619 (want_none rfl) rfl (by decide) (op_add rfl (HF619.ev rfl) (ev_c _ _) (by (first | omega | ((try simp only [List.length_append, List.length_take, List.length_drop, List.length_nil, List.length_cons, List.length_set] at *); omega)))) ?_
                  intro a620 HF621; clear HF619
                  refine gw_ev HF621 (want_none rfl) rfl (by decide) (op_assign rfl (HF621.ev rfl)) ?_
                  intro a622 HF623; clear HF621
                  refine wpList_nil ?_
                  refine gw_nx ⟨_, ?_, j3 + 1, (nextL chs en wt at3 now3 last3 mo).at_, (nextL chs en wt at3 now3 last3 mo).now, (nextL chs en wt at3 now3 last3 mo).last, al3 ++ (nextL chs en wt at3 now3 last3 mo).b, A608, _, _, (HF623.pick (t := 18) rfl (HF623.pick (t := 17) rfl (HF623.pick (t := 7) rfl (HF623.pick (t := 8) rfl (HF623.pick (t := 2) rfl (HF623.pick (t := 5) rfl (HF623.pick (t := 6) rfl HF623.nil))))))), HO615.sel [0, 1, 8, 9, 2, 3, 4, 5, 6] (by decide), ?_, ?_, ?_, ?_, rfl⟩
                  · rw [hm479]; (first | omega | ((try simp only [List.length_append, List.length_take, List.length_drop, List.length_nil, List.length_cons, List.length_set] at *); omega))
                  · (first | omega | ((try simp only [List.length_append, List.length_take, List.length_drop, List.length_nil, List.length_cons, List.length_set] at *); omega))
                  · exact hx2.1
                  · exact hx2.2
                  · exact hx1.1
              · skip
                have HF624 := HF485.subst_ (d := 99) (b := false) rfl hb486
                clear HF485
                (try simp only [decide_eq_true_eq, decide_eq_false_iff_not, Bool.not_eq_true', Bool.not_eq_false', Bool.not_eq_true, Bool.not_eq_false, ne_eq, Decidable.not_not, Int.not_lt, Int.not_le, not_true_eq_false, not_false_eq_true, bne_iff_ne, beq_iff_eq, bne_eq_false_iff_eq, beq_eq_false_iff_ne] at hb486)
                have FB := fin_end hrr3 ha3 (by (first | omega | ((try simp only [List.length_append, List.length_take, List.length_drop, List.length_nil, List.length_cons, List.length_set] at *); omega)))
                refine wp_exit ?_
                refine gw_thx ?_
                refine gw_thx ?_
                refine gw_in ?_
                refine gw_nx (hK469 _ _ ?_)
                refine gw_seq fun K625 hK625 => ?_
                refine wp_region_lit ?_
                refine gw_ev HF624 (want_none rfl) rfl (by decide) (op_field (gwfld48_0 _ _) rfl (HF624.ev rfl)) ?_
                intro a626 HF627; clear HF624
                refine gw_ev HF627 (want_none rfl) rfl (by decide) (op_load1 gwagg46 rfl (HF627.ev rfl) (blk_at (HO478.get 8 rfl) rfl)) ?_
                intro a628 HF629; clear HF627
                refine gw_ev HF629 (want_none rfl) rfl (by decide) (op_len Try.underlying46 rfl (HF629.ev rfl)) ?_
                intro a630 HF631; clear HF629
                refine gw_ev HF631 (want_none rfl) rfl (by decide) (op_gtr rfl (HF631.ev rfl) (ev_c _ _)) ?_
                intro a632 HF633; clear HF631
                refine gw_ev HF633 (want_none rfl) rfl (by decide) (op_move rfl (HF633.ev rfl)) ?_
                intro a634 HF635; clear HF633
                rcases Bool.eq_false_or_eq_true (decide (200 < (chs.length : Int))) with hb636 | hb636
                · skip
                  have HF637 := HF635.subst_ (d := 117) (b := true) rfl hb636
                  clear HF635
                  (try simp only [decide_eq_true_eq, decide_eq_false_iff_not, Bool.not_eq_true', Bool.not_eq_false', Bool.not_eq_true, Bool.not_eq_false, ne_eq, Decidable.not_not, Int.not_lt, Int.not_le, not_true_eq_false, not_false_eq_true, bne_iff_ne, beq_iff_eq, bne_eq_false_iff_eq, beq_eq_false_iff_ne] at hb636)
                  refine gw_off HF637 (want_no HF637 rfl rfl rfl rfl (by decide)) rfl (by decide) ?_
                  intro a638 HF639; clear HF637
                  refine gw_off HF639 (want_no HF639 rfl rfl rfl rfl (by decide)) rfl (by decide) ?_
                  intro a640 HF641; clear HF639
                  refine gw_off HF641 (want_no HF641 rfl rfl rfl rfl (by decide)) rfl (by decide) ?_
                  intro a642 HF643; clear HF641
                  refine gw_off HF643 (want_no HF643 rfl rfl rfl rfl (by decide)) rfl (by decide) ?_
                  intro a644 HF645; clear HF643
                  refine gw_off HF645 (want_undef HF645 rfl rfl rfl rfl) rfl (by decide) ?_
                  intro a646 HF647; clear HF645
                  refine gw_off HF647 (want_undef HF647 rfl rfl rfl rfl) rfl (by decide) ?_
                  intro a648 HF649; clear HF647
                  refine gw_off HF649 (want_undef HF649 rfl rfl rfl rfl) rfl (by decide) ?_
                  intro a650 HF651; clear HF649
                  refine gw_off HF651 (want_undef HF651 rfl rfl rfl rfl) rfl (by decide) ?_
                  intro a652 HF653; clear HF651
                  refine gw_off HF653 (want_undef HF653 rfl rfl rfl rfl) rfl (by decide) ?_
                  intro a654 HF655; clear HF653
                  refine gw_off HF655 (want_no HF655 rfl rfl rfl rfl (by decide)) rfl (by decide) ?_
                  intro a656 HF657; clear HF655
                  refine gw_ev HF657 (want_none rfl) rfl (by decide) (op_pick_t rfl (HF657.ev rfl) (ev_c _ _)) ?_
                  intro a658 HF659; clear HF657
                  refine gw_ev HF659 (want_none rfl) rfl (by decide) (op_assign rfl (HF659.ev rfl)) ?_
                  intro a660 HF661; clear HF659
                  refine wpList_nil ?_
                  refine gw_nx (hK625 _ _ ?_)
                  refine wp_ret ?_
                  refine gw_ret1 HF661 rfl rfl ?_
                  exact ⟨rfl, HO478.below⟩
                · skip
                  have HF662 := HF635.subst_ (d := 117) (b := false) rfl hb636
                  clear HF635
                  (try simp only [decide_eq_true_eq, decide_eq_false_iff_not, Bool.not_eq_true', Bool.not_eq_false', Bool.not_eq_true, Bool.not_eq_false, ne_eq, Decidable.not_not, Int.not_lt, Int.not_le, not_true_eq_false, not_false_eq_true, bne_iff_ne, beq_iff_eq, bne_eq_false_iff_eq, beq_eq_false_iff_ne] at hb636)
                  refine gw_ev HF662 (want_yes HF662 rfl rfl rfl rfl) rfl (by decide) (op_move rfl (HF662.ev rfl)) ?_
                  intro a663 HF664; clear HF662
                  refine gw_ev HF664 (want_yes HF664 rfl rfl rfl rfl) rfl (by decide) (op_move rfl (HF664.ev rfl)) ?_
                  intro a665 HF666; clear HF664
                  refine gw_call HF666 (want_yes HF666 rfl rfl rfl rfl) rfl (by decide) (op_callL Try.func18 (by kernel_rfl) rfl rfl (ar_cons (HF666.ev rfl) (ar_cons (HF666.ev rfl) ar_nil))) (same_calls Al2 cal2 al2 Al3 cal3 al3 _ (Kd.R_reads' (HO478.get 1 rfl)).2.2 (row_cap (HO478.get 1 rfl)) (Kd.R_reads' (HO478.get 0 rfl)).2.2 (row_cap (HO478.get 0 rfl)) (by first | omega | (have := reach_len hrr2 hsum; omega))) ?_
                  rintro e667 w668 ⟨rfl, hb669⟩
                  refine ⟨_, rfl, fun a670 HF671 => ?_⟩
                  have HO672 := HO478.after hb669
                  clear HF666 HO478 hb669
                  have HF674 := HF671.lit (b := true) (by rw [(fin_eq FA FB (by (first | omega | ((try simp only [List.length_append, List.length_take, List.length_drop, List.length_nil, List.length_cons, List.length_set] at *); omega)))).2]; simp)
                  clear HF671
                  refine gw_ev HF674 (want_yes HF674 rfl rfl rfl rfl) rfl (by decide) (op_move rfl (HF674.ev rfl)) ?_
                  intro a675 HF676; clear HF674
                  refine gw_ev HF676 (want_yes HF676 rfl rfl rfl rfl) rfl (by decide) (op_move rfl (HF676.ev rfl)) ?_
                  intro a677 HF678; clear HF676
                  refine gw_call HF678 (want_yes HF678 rfl rfl rfl rfl) rfl (by decide) (op_callL Try.func26 (by kernel_rfl) rfl rfl (ar_cons (HF678.ev rfl) ar_nil)) (GLine_.rest_calls l17 A18 c19 chs en wt at2 now2 last2 none 0 ([] : List Int) _ (HO672.get 5 rfl) (by (first | omega | ((try simp only [List.length_append, List.length_take, List.length_drop, List.length_nil, List.length_cons, List.length_set] at *); omega))) (by (first | omega | ((try simp only [List.length_append, List.length_take, List.length_drop, List.length_nil, List.length_cons, List.length_set] at *); omega))) (by (first | omega | ((try simp only [List.length_append, List.length_take, List.length_drop, List.length_nil, List.length_cons, List.length_set] at *); omega)))) ?_
                  rintro e679 w680 ⟨rfl, hb681⟩
                  refine ⟨_, rfl, fun a682 HF683 => ?_⟩
                  have HO684 := HO672.after hb681
                  clear HF678 HO672 hb681
                  refine gw_ev HF683 (want_yes HF683 rfl rfl rfl rfl) rfl (by decide) (op_move rfl (HF683.ev rfl)) ?_
                  intro a686 HF687; clear HF683
                  refine gw_call HF687 (want_yes HF687 rfl rfl rfl rfl) rfl (by decide) (op_callL Try.func26 (by kernel_rfl) rfl rfl (ar_cons (HF687.ev rfl) ar_nil)) (GLine_.rest_calls l31 A32 c33 chs en wt at3 now3 last3 none 0 ([] : List Int) _ (HO684.get 2 rfl) (by (first | omega | ((try simp only [List.length_append, List.length_take, List.length_drop, List.length_nil, List.length_cons, List.length_set] at *); omega))) (by (first | omega | ((try simp only [List.length_append, List.length_take, List.length_drop, List.length_nil, List.length_cons, List.length_set] at *); omega))) (by (first | omega | ((try simp only [List.length_append, List.length_take, List.length_drop, List.length_nil, List.length_cons, List.length_set] at *); omega)))) ?_
                  rintro e688 w689 ⟨rfl, hb690⟩
                  refine ⟨_, rfl, fun a691 HF692 => ?_⟩
                  have HO693 := HO684.after hb690
                  clear HF687 HO684 hb690
                  refine gw_ev HF692 (want_yes HF692 rfl rfl rfl rfl) rfl (by decide) (op_eqi rfl (HF692.ev rfl) (HF692.ev rfl)) ?_
                  intro a695 HF696; clear HF692
                  have HF697 := HF696.lit (b := true) (by rw [(fin_eq FA FB (by (first | omega | ((try simp only [List.length_append, List.length_take, List.length_drop, List.length_nil, List.length_cons, List.length_set] at *); omega)))).1]; simp)
                  clear HF696
                  refine gw_ev HF697 (want_yes HF697 rfl rfl rfl rfl) rfl (by decide) (op_pick_t rfl (HF697.ev rfl) (HF697.ev rfl)) ?_
                  intro a698 HF699; clear HF697
                  refine gw_ev HF699 (want_none rfl) rfl (by decide) (op_pick_f rfl (HF699.ev rfl) (HF699.ev rfl)) ?_
                  intro a700 HF701; clear HF699
                  refine gw_ev HF701 (want_none rfl) rfl (by decide) (op_assign rfl (HF701.ev rfl)) ?_
                  intro a702 HF703; clear HF701
                  refine wpList_nil ?_
                  refine gw_nx (hK625 _ _ ?_)
                  refine wp_ret ?_
                  refine gw_ret1 HF703 rfl rfl ?_
                  exact ⟨rfl, HO693.below⟩
      · skip
        have HF704 := HF134.subst_ (d := 44) (b := false) rfl hb135
        clear HF134
        (try simp only [decide_eq_true_eq, decide_eq_false_iff_not, Bool.not_eq_true', Bool.not_eq_false', Bool.not_eq_true, Bool.not_eq_false, ne_eq, Decidable.not_not, Int.not_lt, Int.not_le, not_true_eq_false, not_false_eq_true, bne_iff_ne, beq_iff_eq, bne_eq_false_iff_eq, beq_eq_false_iff_ne] at hb135)
        refine wp_skip ?_
        refine gw_nx (hK129 _ _ ?_)
        refine gw_seq fun K705 hK705 => ?_
        refine wp_region_lit ?_
        refine gw_ev HF704 (want_none rfl) rfl (by decide) (op_move rfl (HF704.ev rfl)) ?_
        intro a706 HF707; clear HF704
        refine gw_ev HF707 (want_none rfl) rfl (by decide) (op_move rfl (HF707.ev rfl)) ?_
        intro a708 HF709; clear HF707
        refine gw_ev HF709 (want_none rfl) rfl (by decide) (op_max rfl (HF709.ev rfl) (HF709.ev rfl)) ?_
        intro a710 HF711; clear HF709
        refine gw_ev HF711 (want_none rfl) rfl (by decide) (op_assign rfl (HF711.ev rfl)) ?_
        intro a712 HF713; clear HF711
        refine wpList_nil ?_
        refine gw_nx (hK705 _ _ ?_)
        refine gw_seq fun K714 hK714 => ?_
        refine wp_region_lit ?_
        refine gw_ev HF713 (want_none rfl) rfl (by decide) (op_move rfl (HF713.ev rfl)) ?_
        intro a715 HF716; clear HF713
        refine gw_call HF716 (want_none rfl) rfl (by decide) (op_callL Try.func25 (by kernel_rfl) rfl rfl (ar_cons (HF716.ev rfl) ar_nil)) (GLine_.now_calls l17 A18 c19 chs en wt atz nowz lastz none 0 ([] : List Int) _ (HO103.get 4 rfl)) ?_
        rintro e717 w718 ⟨rfl, hb719⟩
        refine ⟨_, rfl, fun a720 HF721 => ?_⟩
        have HO722 := HO103.after hb719
        clear HF716 HO103 hb719
        refine gw_ev HF721 (want_none rfl) rfl (by decide) (op_assign rfl (HF721.ev rfl)) ?_
        intro a724 HF725; clear HF721
        refine wpList_nil ?_
        refine gw_nx (hK714 _ _ ?_)
        refine gw_seq fun K726 hK726 => ?_
        refine wp_region_lit ?_
        refine gw_ev HF725 (want_none rfl) rfl (by decide) (op_move rfl (HF725.ev rfl)) ?_
        intro a727 HF728; clear HF725
        refine gw_ev HF728 (want_none rfl) rfl (by decide) (op_move rfl (HF728.ev rfl)) ?_
        intro a729 HF730; clear HF728
        have HO740 : Own w _ [(Chunk.all [Chunk.row (Kd.int .u8) 5 w.heap.size Slz (.slice Alz alz.length calz) alz, Chunk.blk l31 (.cells #[.slice A32 chs.length c33, .int .i64 en, .int .i64 wt, .int .i64 0, .int .i64 0, .int .i64 0, .slice none (([] : List Int).length) 0] 83 (0, 0)), Chunk.view k52 S34 A32 chs.length c33 chs, Chunk.row (Kd.int .u8) 5 w.heap.size (fun _ => False) (.slice none (([] : List Int).length) 0) ([] : List Int), Chunk.row (Kd.int .u8) 5 w.heap.size (fun _ => False) (.slice none (([] : List Int).length) 0) ([] : List Int), Chunk.blk g2 (.cells #[.slice A0_0 chs.length c0_0, .int .i64 en, .int .i64 wt] 48 (0, 0))]), Chunk.blk l17 (.cells #[.slice A18 chs.length c19, .int .i64 en, .int .i64 wt, .int .i64 atz, .int .i64 nowz, .int .i64 lastz, .slice none (([] : List Int).length) 0] 83 (0, 0)), Chunk.view k52 S20 A18 chs.length c19 chs] := Own.bundle (A := [Chunk.row (Kd.int .u8) 5 w.heap.size Slz (.slice Alz alz.length calz) alz, Chunk.blk l31 (.cells #[.slice A32 chs.length c33, .int .i64 en, .int .i64 wt, .int .i64 0, .int .i64 0, .int .i64 0, .slice none (([] : List Int).length) 0] 83 (0, 0)), Chunk.view k52 S34 A32 chs.length c33 chs, Chunk.row (Kd.int .u8) 5 w.heap.size (fun _ => False) (.slice none (([] : List Int).length) 0) ([] : List Int), Chunk.row (Kd.int .u8) 5 w.heap.size (fun _ => False) (.slice none (([] : List Int).length) 0) ([] : List Int), Chunk.blk g2 (.cells #[.slice A0_0 chs.length c0_0, .int .i64 en, .int .i64 wt] 48 (0, 0))]) (L := [Chunk.blk l17 (.cells #[.slice A18 chs.length c19, .int .i64 en, .int .i64 wt, .int .i64 atz, .int .i64 nowz, .int .i64 lastz, .slice none (([] : List Int).length) 0] 83 (0, 0)), Chunk.view k52 S20 A18 chs.length c19 chs]) (HO722.sel [0, 1, 2, 3, 6, 7, 4, 5] (by decide))
        refine gw_call HF730 (want_none rfl) rfl (by decide) (op_callL Try.func24 (by kernel_rfl) rfl rfl (ar_cons (HF730.ev rfl) (ar_cons (HF730.ev rfl) ar_nil))) (GLine_.next_calls w _ (Chunk.all [Chunk.row (Kd.int .u8) 5 w.heap.size Slz (.slice Alz alz.length calz) alz, Chunk.blk l31 (.cells #[.slice A32 chs.length c33, .int .i64 en, .int .i64 wt, .int .i64 0, .int .i64 0, .int .i64 0, .slice none (([] : List Int).length) 0] 83 (0, 0)), Chunk.view k52 S34 A32 chs.length c33 chs, Chunk.row (Kd.int .u8) 5 w.heap.size (fun _ => False) (.slice none (([] : List Int).length) 0) ([] : List Int), Chunk.row (Kd.int .u8) 5 w.heap.size (fun _ => False) (.slice none (([] : List Int).length) 0) ([] : List Int), Chunk.blk g2 (.cells #[.slice A0_0 chs.length c0_0, .int .i64 en, .int .i64 wt] 48 (0, 0))]) l17 A18 c19 chs en wt atz nowz lastz none 0 ([] : List Int) S20 (limits.getD i.toNat (0 : Int)) (by (first | omega | ((try simp only [List.length_append, List.length_take, List.length_drop, List.length_nil, List.length_cons, List.length_set] at *); omega))) (by (first | omega | ((try simp only [List.length_append, List.length_take, List.length_drop, List.length_nil, List.length_cons, List.length_set] at *); omega))) (by (first | omega | ((try simp only [List.length_append, List.length_take, List.length_drop, List.length_nil, List.length_cons, List.length_set] at *); omega))) hz HO740) ?_
        rintro e734 w735 ⟨A731, c732, S733, rfl, hb736⟩
        refine ⟨_, rfl, fun a737 HF738 => ?_⟩
        have HO739 : Own w w735 [Chunk.row (Kd.int .u8) 5 w.heap.size Slz (.slice Alz alz.length calz) alz, Chunk.blk l31 (.cells #[.slice A32 chs.length c33, .int .i64 en, .int .i64 wt, .int .i64 0, .int .i64 0, .int .i64 0, .slice none (([] : List Int).length) 0] 83 (0, 0)), Chunk.view k52 S34 A32 chs.length c33 chs, Chunk.row (Kd.int .u8) 5 w.heap.size (fun _ => False) (.slice none (([] : List Int).length) 0) ([] : List Int), Chunk.row (Kd.int .u8) 5 w.heap.size (fun _ => False) (.slice none (([] : List Int).length) 0) ([] : List Int), Chunk.blk g2 (.cells #[.slice A0_0 chs.length c0_0, .int .i64 en, .int .i64 wt] 48 (0, 0)), Chunk.row (Kd.int .u8) 5 w.heap.size S733 (.slice A731 ((nextL chs en wt atz nowz lastz (limits.getD i.toNat (0 : Int))).b.length) c732) ((nextL chs en wt atz nowz lastz (limits.getD i.toNat (0 : Int))).b), Chunk.blk l17 (.cells #[.slice A18 chs.length c19, .int .i64 en, .int .i64 wt, .int .i64 ((nextL chs en wt atz nowz lastz (limits.getD i.toNat (0 : Int))).at_), .int .i64 ((nextL chs en wt atz nowz lastz (limits.getD i.toNat (0 : Int))).now), .int .i64 ((nextL chs en wt atz nowz lastz (limits.getD i.toNat (0 : Int))).last), .slice none (([] : List Int).length) 0] 83 (0, 0)), Chunk.view k52 S20 A18 chs.length c19 chs] := Own.unbundle (A := [Chunk.row (Kd.int .u8) 5 w.heap.size Slz (.slice Alz alz.length calz) alz, Chunk.blk l31 (.cells #[.slice A32 chs.length c33, .int .i64 en, .int .i64 wt, .int .i64 0, .int .i64 0, .int .i64 0, .slice none (([] : List Int).length) 0] 83 (0, 0)), Chunk.view k52 S34 A32 chs.length c33 chs, Chunk.row (Kd.int .u8) 5 w.heap.size (fun _ => False) (.slice none (([] : List Int).length) 0) ([] : List Int), Chunk.row (Kd.int .u8) 5 w.heap.size (fun _ => False) (.slice none (([] : List Int).length) 0) ([] : List Int), Chunk.blk g2 (.cells #[.slice A0_0 chs.length c0_0, .int .i64 en, .int .i64 wt] 48 (0, 0))]) (L := [Chunk.row (Kd.int .u8) 5 w.heap.size S733 (.slice A731 ((nextL chs en wt atz nowz lastz (limits.getD i.toNat (0 : Int))).b.length) c732) ((nextL chs en wt atz nowz lastz (limits.getD i.toNat (0 : Int))).b), Chunk.blk l17 (.cells #[.slice A18 chs.length c19, .int .i64 en, .int .i64 wt, .int .i64 ((nextL chs en wt atz nowz lastz (limits.getD i.toNat (0 : Int))).at_), .int .i64 ((nextL chs en wt atz nowz lastz (limits.getD i.toNat (0 : Int))).now), .int .i64 ((nextL chs en wt atz nowz lastz (limits.getD i.toNat (0 : Int))).last), .slice none (([] : List Int).length) 0] 83 (0, 0)), Chunk.view k52 S20 A18 chs.length c19 chs]) (hb736.sel [1, 0, 2, 3] (by decide))
        clear HO740
        clear HF730 HO722 hb736
        have HO742 : Own w w735 [Chunk.row (Kd.int .u8) 5 w.heap.size Slz (.slice Alz alz.length calz) alz, Chunk.blk l31 (.cells #[.slice A32 chs.length c33, .int .i64 en, .int .i64 wt, .int .i64 0, .int .i64 0, .int .i64 0, .slice none (([] : List Int).length) 0] 83 (0, 0)), Chunk.view k52 S34 A32 chs.length c33 chs, Chunk.row (Kd.int .u8) 5 w.heap.size (fun _ => False) (.slice none (([] : List Int).length) 0) ([] : List Int), Chunk.row (Kd.int .u8) 5 w.heap.size (fun _ => False) (.slice none (([] : List Int).length) 0) ([] : List Int), Chunk.blk g2 (.cells #[.slice A0_0 chs.length c0_0, .int .i64 en, .int .i64 wt] 48 (0, 0)), Chunk.row (Kd.int .u8) 5 w.heap.size S733 (.slice A731 ((nextL chs en wt atz nowz lastz (limits.getD i.toNat (0 : Int))).b.length) c732) ((nextL chs en wt atz nowz lastz (limits.getD i.toNat (0 : Int))).b), Chunk.blk l17 (.cells #[.slice A18 chs.length c19, .int .i64 en, .int .i64 wt, .int .i64 ((nextL chs en wt atz nowz lastz (limits.getD i.toNat (0 : Int))).at_), .int .i64 ((nextL chs en wt atz nowz lastz (limits.getD i.toNat (0 : Int))).now), .int .i64 ((nextL chs en wt atz nowz lastz (limits.getD i.toNat (0 : Int))).last), .slice none (([] : List Int).length) 0] 83 (0, 0)), Chunk.view k52 S20 A18 chs.length c19 chs] := HO739
        clear HO739
        refine gw_ev HF738 (want_none rfl) rfl (by decide) (op_move rfl (HF738.ev rfl)) ?_
        intro a743 HF744; clear HF738
        have hmx := mx_ge mo (limits.getD i.toNat (0 : Int))
        have hx1 := reach_next (en := en) (wt := wt) (lim := (limits.getD i.toNat (0 : Int))) (most' := mx mo (limits.getD i.toNat (0 : Int))) hrrz haz hmx.2 hmx.1
        have hx2 := next_st chs en wt atz nowz lastz (limits.getD i.toNat (0 : Int)) haz hlz
        have hx3 := reach_len hx1.1 hsum
        rw [List.length_append] at hx3
        refine gw_ev HF744 (want_none rfl) rfl (by decide) (op_extract rfl (HF744.ev rfl) rfl) ?_
        intro a745 HF746; clear HF744
        refine gw_ev HF746 (want_none rfl) rfl (by decide) (op_extract rfl (HF746.ev rfl) rfl) ?_
        intro a747 HF748; clear HF746
        refine gw_ev HF748 (want_none rfl) rfl (by decide) (op_assign rfl (HF748.ev rfl)) ?_
        intro a749 HF750; clear HF748
        refine gw_ev HF750 (want_none rfl) rfl (by decide) (op_assign rfl (HF750.ev rfl)) ?_
        intro a751 HF752; clear HF750
        refine wpList_nil ?_
        refine gw_nx (hK726 _ _ ?_)
        refine gw_seq fun K753 hK753 => ?_
        refine wp_region_lit ?_
        refine gw_ev HF752 (want_none rfl) rfl (by decide) (op_move rfl (HF752.ev rfl)) ?_
        intro a754 HF755; clear HF752
        refine gw_ev HF755 (want_none rfl) rfl (by decide) (op_move rfl (HF755.ev rfl)) ?_
        intro a756 HF757; clear HF755
        refine gw_append (Kd.int .u8) 0 HF757 HO742 (want_none rfl) rfl (by decide) rfl Try.underlying26 gwinfo5 rfl (by decide) (by decide) rfl (HF757.ev rfl) (HF757.ev rfl) (Kd.R_reads' (HO742.get 6 rfl)).2.2 (fun _ _ h => h) HO742.below.size (by (first | omega | ((try simp only [List.length_append, List.length_take, List.length_drop, List.length_nil, List.length_cons, List.length_set] at *); omega))) ?_
        intro A758 c759 S760 a761 w762 HF763 HO764; clear HF757 HO742
        have HO765 : Own w w762 [Chunk.row (Kd.int .u8) 5 w.heap.size S760 (.slice A758 ((alz ++ (nextL chs en wt atz nowz lastz (limits.getD i.toNat (0 : Int))).b).length) c759) (alz ++ (nextL chs en wt atz nowz lastz (limits.getD i.toNat (0 : Int))).b), Chunk.blk l31 (.cells #[.slice A32 chs.length c33, .int .i64 en, .int .i64 wt, .int .i64 0, .int .i64 0, .int .i64 0, .slice none (([] : List Int).length) 0] 83 (0, 0)), Chunk.view k52 S34 A32 chs.length c33 chs, Chunk.row (Kd.int .u8) 5 w.heap.size (fun _ => False) (.slice none (([] : List Int).length) 0) ([] : List Int), Chunk.row (Kd.int .u8) 5 w.heap.size (fun _ => False) (.slice none (([] : List Int).length) 0) ([] : List Int), Chunk.blk g2 (.cells #[.slice A0_0 chs.length c0_0, .int .i64 en, .int .i64 wt] 48 (0, 0)), Chunk.row (Kd.int .u8) 5 w.heap.size S733 (.slice A731 ((nextL chs en wt atz nowz lastz (limits.getD i.toNat (0 : Int))).b.length) c732) ((nextL chs en wt atz nowz lastz (limits.getD i.toNat (0 : Int))).b), Chunk.blk l17 (.cells #[.slice A18 chs.length c19, .int .i64 en, .int .i64 wt, .int .i64 ((nextL chs en wt atz nowz lastz (limits.getD i.toNat (0 : Int))).at_), .int .i64 ((nextL chs en wt atz nowz lastz (limits.getD i.toNat (0 : Int))).now), .int .i64 ((nextL chs en wt atz nowz lastz (limits.getD i.toNat (0 : Int))).last), .slice none (([] : List Int).length) 0] 83 (0, 0)), Chunk.view k52 S20 A18 chs.length c19 chs] := HO764
        clear HO764
        refine gw_ev HF763 (want_none rfl) rfl (by decide) (op_assign rfl (HF763.ev rfl)) ?_
        intro a766 HF767; clear HF763
        refine wpList_nil ?_
        refine gw_nx (hK753 _ _ ?_)
        refine gw_seq fun K768 hK768 => ?_
        refine wp_region_lit ?_
        refine gw_ev HF767 (want_none rfl) rfl (by decide) (op_move rfl (HF767.ev rfl)) ?_
        intro a769 HF770; clear HF767
        refine gw_call HF770 (want_none rfl) rfl (by decide) (op_callL Try.func25 (by kernel_rfl) rfl rfl (ar_cons (HF770.ev rfl) ar_nil)) (GLine_.now_calls l17 A18 c19 chs en wt ((nextL chs en wt atz nowz lastz (limits.getD i.toNat (0 : Int))).at_) ((nextL chs en wt atz nowz lastz (limits.getD i.toNat (0 : Int))).now) ((nextL chs en wt atz nowz lastz (limits.getD i.toNat (0 : Int))).last) none 0 ([] : List Int) _ (HO765.get 7 rfl)) ?_
        rintro e771 w772 ⟨rfl, hb773⟩
        refine ⟨_, rfl, fun a774 HF775 => ?_⟩
        have HO776 := HO765.after hb773
        clear HF770 HO765 hb773
        refine gw_ev HF775 (want_none rfl) rfl (by decide) (op_move rfl (HF775.ev rfl)) ?_
        intro a778 HF779; clear HF775
        refine gw_ev HF779 (want_none rfl) rfl (by decide) (op_lss rfl (HF779.ev rfl) (HF779.ev rfl)) ?_
        intro a780 HF781; clear HF779
        have HF782 := HF781.lit (b := false) (by rw [decide_eq_false_iff_not]; have := hx1.2; omega)
        clear HF781
        refine gw_ev HF782 (want_none rfl) rfl (by decide) (op_move rfl (HF782.ev rfl)) ?_
        intro a783 HF784; clear HF782
        refine gw_ev HF784 (want_yes HF784 rfl rfl rfl rfl) rfl (by decide) (op_move rfl (HF784.ev rfl)) ?_
        intro a785 HF786; clear HF784
        refine gw_call HF786 (want_yes HF786 rfl rfl rfl rfl) rfl (by decide) (op_callL Try.func25 (by kernel_rfl) rfl rfl (ar_cons (HF786.ev rfl) ar_nil)) (GLine_.now_calls l17 A18 c19 chs en wt ((nextL chs en wt atz nowz lastz (limits.getD i.toNat (0 : Int))).at_) ((nextL chs en wt atz nowz lastz (limits.getD i.toNat (0 : Int))).now) ((nextL chs en wt atz nowz lastz (limits.getD i.toNat (0 : Int))).last) none 0 ([] : List Int) _ (HO776.get 7 rfl)) ?_
        rintro e787 w788 ⟨rfl, hb789⟩
        refine ⟨_, rfl, fun a790 HF791 => ?_⟩
        have HO792 := HO776.after hb789
        clear HF786 HO776 hb789
        refine gw_ev HF791 (want_yes HF791 rfl rfl rfl rfl) rfl (by decide) (op_move rfl (HF791.ev rfl)) ?_
        intro a794 HF795; clear HF791
        refine gw_ev HF795 (want_yes HF795 rfl rfl rfl rfl) rfl (by decide) (op_gtr rfl (HF795.ev rfl) (HF795.ev rfl)) ?_
        intro a796 HF797; clear HF795
        have HF798 := HF797.lit (b := false) (by rw [decide_eq_false_iff_not]; have := hx1.1.now1; omega)
        clear HF797
        refine gw_ev HF798 (want_none rfl) rfl (by decide) (op_pick_f rfl (HF798.ev rfl) (HF798.ev rfl)) ?_
        intro a799 HF800; clear HF798
        refine gw_ev HF800 (want_none rfl) rfl (by decide) (op_move rfl (HF800.ev rfl)) ?_
        intro a801 HF802; clear HF800
        refine gw_ev HF802 (want_yes HF802 rfl rfl rfl rfl) rfl (by decide) (op_move rfl (HF802.ev rfl)) ?_
        intro a803 HF804; clear HF802
        refine gw_ev HF804 (want_yes HF804 rfl rfl rfl rfl) rfl (by decide) (op_eqi rfl (HF804.ev rfl) (ev_c _ _)) ?_
        intro a805 HF806; clear HF804
        refine gw_ev HF806 (want_yes HF806 rfl rfl rfl rfl) rfl (by decide) (op_move rfl (HF806.ev rfl)) ?_
        intro a807 HF808; clear HF806
        rcases Bool.eq_false_or_eq_true (decide (((nextL chs en wt atz nowz lastz (limits.getD i.toNat (0 : Int))).k) = 4)) with hb809 | hb809
        · skip
          have HF810 := HF808.subst_ (d := 72) (b := true) rfl hb809
          clear HF808
          (try simp only [decide_eq_true_eq, decide_eq_false_iff_not, Bool.not_eq_true', Bool.not_eq_false', Bool.not_eq_true, Bool.not_eq_false, ne_eq, Decidable.not_not, Int.not_lt, Int.not_le, not_true_eq_false, not_false_eq_true, bne_iff_ne, beq_iff_eq, bne_eq_false_iff_eq, beq_eq_false_iff_ne] at hb809)
          refine gw_ev HF810 (want_yes HF810 rfl rfl rfl rfl) rfl (by decide) (op_move rfl (HF810.ev rfl)) ?_
          intro a811 HF812; clear HF810
          refine gw_call HF812 (want_yes HF812 rfl rfl rfl rfl) rfl (by decide) (op_callL Try.func25 (by kernel_rfl) rfl rfl (ar_cons (HF812.ev rfl) ar_nil)) (GLine_.now_calls l17 A18 c19 chs en wt ((nextL chs en wt atz nowz lastz (limits.getD i.toNat (0 : Int))).at_) ((nextL chs en wt atz nowz lastz (limits.getD i.toNat (0 : Int))).now) ((nextL chs en wt atz nowz lastz (limits.getD i.toNat (0 : Int))).last) none 0 ([] : List Int) _ (HO792.get 7 rfl)) ?_
          rintro e813 w814 ⟨rfl, hb815⟩
          refine ⟨_, rfl, fun a816 HF817 => ?_⟩
          have HO818 := HO792.after hb815
          clear HF812 HO792 hb815
          refine gw_ev HF817 (want_yes HF817 rfl rfl rfl rfl) rfl (by decide) (op_move rfl (HF817.ev rfl)) ?_
          intro a820 HF821; clear HF817
          refine gw_ev HF821 (want_yes HF821 rfl rfl rfl rfl) rfl (by decide) (op_move rfl (HF821.ev rfl)) ?_
          intro a822 HF823; clear HF821
          refine gw_ev HF823 (want_yes HF823 rfl rfl rfl rfl) rfl (by decide) (op_max rfl (HF823.ev rfl) (HF823.ev rfl)) ?_
          intro a824 HF825; clear HF823
          refine gw_ev HF825 (want_yes HF825 rfl rfl rfl rfl) rfl (by decide) (op_nei rfl (HF825.ev rfl) (HF825.ev rfl)) ?_
          intro a826 HF827; clear HF825
          have HF828 := HF827.lit (b := false) (by rw [decide_eq_false_iff_not]; intro h_; exact h_ (next_late_now (by assumption)))
          clear HF827
          refine gw_ev HF828 (want_yes HF828 rfl rfl rfl rfl) rfl (by decide) (op_pick_t rfl (HF828.ev rfl) (HF828.ev rfl)) ?_
          intro a829 HF830; clear HF828
          refine gw_ev HF830 (want_none rfl) rfl (by decide) (op_pick_f rfl (HF830.ev rfl) (HF830.ev rfl)) ?_
          intro a831 HF832; clear HF830
          refine wpList_nil ?_
          refine gw_nx (hK768 _ _ ?_)
          refine gw_cond HF832 rfl (fun hb833 => ?_) (fun hb833 => ?_)
          skip
          · cases hb833
          refine wp_skip ?_
          refine gw_blk ?_
          refine gw_nx (hK111 _ _ ?_)
          refine wp_region_lit ?_
          refine gw_ev HF832 (want_none rfl) rfl (by decide) (op_add rfl (HF832.ev rfl) (ev_c _ _) (by (first | omega | ((try simp only [List.length_append, List.length_take, List.length_drop, List.length_nil, List.length_cons, List.length_set] at *); omega)))) ?_
          intro a834 HF835; clear HF832
          refine gw_ev HF835 (want_none rfl) rfl (by decide) (op_move rfl (HF835.ev rfl)) ?_
          intro a836 HF837; clear HF835
          refine wpList_nil ?_
          refine gw_nx ⟨_, ?_, i + 1, mx mo (limits.getD i.toNat (0 : Int)), (nextL chs en wt atz nowz lastz (limits.getD i.toNat (0 : Int))).at_, (nextL chs en wt atz nowz lastz (limits.getD i.toNat (0 : Int))).now, (nextL chs en wt atz nowz lastz (limits.getD i.toNat (0 : Int))).last, alz ++ (nextL chs en wt atz nowz lastz (limits.getD i.toNat (0 : Int))).b, A758, _, _, (HF837.pick (t := 38) rfl (HF837.pick (t := 7) rfl (HF837.pick (t := 8) rfl (HF837.pick (t := 2) rfl (HF837.pick (t := 5) rfl (HF837.pick (t := 6) rfl (HF837.pick (t := 36) rfl (HF837.pick (t := 37) rfl HF837.nil)))))))), HO818.sel [0, 1, 2, 3, 7, 8, 4, 5] (by decide), ?_, ?_, ?_, ?_, ?_, rfl⟩
          · rw [hm104]; (first | omega | ((try simp only [List.length_append, List.length_take, List.length_drop, List.length_nil, List.length_cons, List.length_set] at *); omega))
          · (first | omega | ((try simp only [List.length_append, List.length_take, List.length_drop, List.length_nil, List.length_cons, List.length_set] at *); omega))
          · exact hx2.1
          · exact hx2.2
          · exact hx1.1
          · have := hmx; (first | omega | ((try simp only [List.length_append, List.length_take, List.length_drop, List.length_nil, List.length_cons, List.length_set] at *); omega))
        · skip
          have HF838 := HF808.subst_ (d := 72) (b := false) rfl hb809
          clear HF808
          (try simp only [decide_eq_true_eq, decide_eq_false_iff_not, Bool.not_eq_true', Bool.not_eq_false', Bool.not_eq_true, Bool.not_eq_false, ne_eq, Decidable.not_not, Int.not_lt, Int.not_le, not_true_eq_false, not_false_eq_true, bne_iff_ne, beq_iff_eq, bne_eq_false_iff_eq, beq_eq_false_iff_ne] at hb809)
          refine gw_off HF838 (want_no HF838 rfl rfl rfl rfl (by decide)) rfl (by decide) ?_
          intro a839 HF840; clear HF838
          refine gw_off HF840 (want_no HF840 rfl rfl rfl rfl (by decide)) rfl (by decide) ?_
          intro a841 HF842; clear HF840
          refine gw_off HF842 (want_no HF842 rfl rfl rfl rfl (by decide)) rfl (by decide) ?_
          intro a843 HF844; clear HF842
          refine gw_off HF844 (want_no HF844 rfl rfl rfl rfl (by decide)) rfl (by decide) ?_
          intro a845 HF846; clear HF844
          refine gw_off HF846 (want_no HF846 rfl rfl rfl rfl (by decide)) rfl (by decide) ?_
          intro a847 HF848; clear HF846
          refine gw_off HF848 (want_no HF848 rfl rfl rfl rfl (by decide)) rfl (by decide) ?_
          intro a849 HF850; clear HF848
          refine gw_ev HF850 (want_yes HF850 rfl rfl rfl rfl) rfl (by decide) (op_pick_f rfl (HF850.ev rfl) (ev_c _ _)) ?_
          intro a851 HF852; clear HF850
          refine gw_ev HF852 (want_none rfl) rfl (by decide) (op_pick_f rfl (HF852.ev rfl) (HF852.ev rfl)) ?_
          intro a853 HF854; clear HF852
          refine wpList_nil ?_
          refine gw_nx (hK768 _ _ ?_)
          refine gw_cond HF854 rfl (fun hb855 => ?_) (fun hb855 => ?_)
          skip
          · cases hb855
          refine wp_skip ?_
          refine gw_blk ?_
          refine gw_nx (hK111 _ _ ?_)
          refine wp_region_lit ?_
          refine gw_ev HF854 (want_none rfl) rfl (by decide) (op_add rfl (HF854.ev rfl) (ev_c _ _) (by (first | omega | ((try simp only [List.length_append, List.length_take, List.length_drop, List.length_nil, List.length_cons, List.length_set] at *); omega)))) ?_
          intro a856 HF857; clear HF854
          refine gw_ev HF857 (want_none rfl) rfl (by decide) (op_move rfl (HF857.ev rfl)) ?_
          intro a858 HF859; clear HF857
          refine wpList_nil ?_
          refine gw_nx ⟨_, ?_, i + 1, mx mo (limits.getD i.toNat (0 : Int)), (nextL chs en wt atz nowz lastz (limits.getD i.toNat (0 : Int))).at_, (nextL chs en wt atz nowz lastz (limits.getD i.toNat (0 : Int))).now, (nextL chs en wt atz nowz lastz (limits.getD i.toNat (0 : Int))).last, alz ++ (nextL chs en wt atz nowz lastz (limits.getD i.toNat (0 : Int))).b, A758, _, _, (HF859.pick (t := 38) rfl (HF859.pick (t := 7) rfl (HF859.pick (t := 8) rfl (HF859.pick (t := 2) rfl (HF859.pick (t := 5) rfl (HF859.pick (t := 6) rfl (HF859.pick (t := 36) rfl (HF859.pick (t := 37) rfl HF859.nil)))))))), HO792.sel [0, 1, 2, 3, 7, 8, 4, 5] (by decide), ?_, ?_, ?_, ?_, ?_, rfl⟩
          · rw [hm104]; (first | omega | ((try simp only [List.length_append, List.length_take, List.length_drop, List.length_nil, List.length_cons, List.length_set] at *); omega))
          · (first | omega | ((try simp only [List.length_append, List.length_take, List.length_drop, List.length_nil, List.length_cons, List.length_set] at *); omega))
          · exact hx2.1
          · exact hx2.2
          · exact hx1.1
          · have := hmx; (first | omega | ((try simp only [List.length_append, List.length_take, List.length_drop, List.length_nil, List.length_cons, List.length_set] at *); omega))
    · skip
      have HF860 := HF107.subst_ (d := 39) (b := false) rfl hb109
      clear HF107
      (try simp only [decide_eq_true_eq, decide_eq_false_iff_not, Bool.not_eq_true', Bool.not_eq_false', Bool.not_eq_true, Bool.not_eq_false, ne_eq, Decidable.not_not, Int.not_lt, Int.not_le, not_true_eq_false, not_false_eq_true, bne_iff_ne, beq_iff_eq, bne_eq_false_iff_eq, beq_eq_false_iff_ne] at hb109)
      refine wp_exit ?_
      refine gw_thx ?_
      refine gw_thx ?_
      refine gw_in ?_
      refine gw_nx (hK90 _ _ ?_)
      refine gw_seq fun K861 hK861 => ?_
      refine gw_seq fun K862 hK862 => ?_
      refine wp_region_lit ?_
      refine gw_ev HF860 (want_none rfl) rfl (by decide) (op_assign rfl (ev_c _ _)) ?_
      intro a863 HF864; clear HF860
      refine wpList_nil ?_
      refine gw_nx (hK862 _ _ ?_)
      refine wp_block ?_
      refine gw_loop (fun m_ a_ w_ => ∃ (j2 : Int) (at2 : Int) (now2 : Int) (last2 : Int) (al2 : List Int) (Al2 : Option Addr) (cal2 : Nat) (Sl2 : Nat → Prop), Fr 129 a_ [(14, .int .i64 j2), (7, .slice Al2 al2.length cal2), (8, .int .i64 mo), (2, .pointer (some ⟨g2, 0, none⟩)), (5, .pointer (some ⟨l17, 0, none⟩)), (6, .pointer (some ⟨l31, 0, none⟩))] ∧ Own w w_ [Chunk.row (Kd.int .u8) 5 w.heap.size Sl2 (.slice Al2 al2.length cal2) al2, Chunk.blk l31 (.cells #[.slice A32 chs.length c33, .int .i64 en, .int .i64 wt, .int .i64 0, .int .i64 0, .int .i64 0, .slice none (([] : List Int).length) 0] 83 (0, 0)), Chunk.view k52 S34 A32 chs.length c33 chs, Chunk.row (Kd.int .u8) 5 w.heap.size (fun _ => False) (.slice none (([] : List Int).length) 0) ([] : List Int), Chunk.blk l17 (.cells #[.slice A18 chs.length c19, .int .i64 en, .int .i64 wt, .int .i64 at2, .int .i64 now2, .int .i64 last2, .slice none (([] : List Int).length) 0] 83 (0, 0)), Chunk.view k52 S20 A18 chs.length c19 chs, Chunk.row (Kd.int .u8) 5 w.heap.size (fun _ => False) (.slice none (([] : List Int).length) 0) ([] : List Int), Chunk.blk g2 (.cells #[.slice A0_0 chs.length c0_0, .int .i64 en, .int .i64 wt] 48 (0, 0))] ∧ (0 ≤ j2 ∧ j2 ≤ 200 ∧ j2 ≤ at2) ∧ (0 ≤ at2 ∧ at2 ≤ chs.length) ∧ (0 ≤ last2 ∧ last2 ≤ 1000000 * at2) ∧ (Reach chs at2 now2 last2 al2 mo) ∧ m_ = (200 - j2.toNat)) ((200 - (0 : Int).toNat)) ?_ ?_
      · refine ⟨0, atz, nowz, lastz, alz, Alz, _, _, (HF864.pick (t := 14) rfl (HF864.pick (t := 7) rfl (HF864.pick (t := 8) rfl (HF864.pick (t := 2) rfl (HF864.pick (t := 5) rfl (HF864.pick (t := 6) rfl HF864.nil)))))), HO103.sel [0, 1, 2, 3, 4, 5, 6, 7] (by decide), ?_, ?_, ?_, ?_, rfl⟩
        · (first | omega | ((try simp only [List.length_append, List.length_take, List.length_drop, List.length_nil, List.length_cons, List.length_set] at *); omega))
        · (first | omega | ((try simp only [List.length_append, List.length_take, List.length_drop, List.length_nil, List.length_cons, List.length_set] at *); omega))
        · (first | omega | ((try simp only [List.length_append, List.length_take, List.length_drop, List.length_nil, List.length_cons, List.length_set] at *); omega))
        · exact hrrz
      · rintro m866 a867 w868 ⟨j2, at2, now2, last2, al2, Al2, cal2, Sl2, HF869, HO870, hi2, ha2, hl2, hrr2, hm871⟩
        refine gw_seq fun K872 hK872 => ?_
        refine gw_seq fun K873 hK873 => ?_
        refine wp_region_lit ?_
        refine gw_ev HF869 (want_none rfl) rfl (by decide) (op_move rfl (HF869.ev rfl)) ?_
        intro a874 HF875; clear HF869
        refine gw_ev HF875 (want_none rfl) rfl (by decide) (op_lss rfl (HF875.ev rfl) (ev_c _ _)) ?_
        intro a876 HF877; clear HF875
        refine wpList_nil ?_
        refine gw_nx (hK873 _ _ ?_)
        refine gw_cond HF877 rfl (fun hb878 => ?_) (fun hb878 => ?_)
        · skip
          have HF879 := HF877.subst_ (d := 83) (b := true) rfl hb878
          clear HF877
          (try simp only [decide_eq_true_eq, decide_eq_false_iff_not, Bool.not_eq_true', Bool.not_eq_false', Bool.not_eq_true, Bool.not_eq_false, ne_eq, Decidable.not_not, Int.not_lt, Int.not_le, not_true_eq_false, not_false_eq_true, bne_iff_ne, beq_iff_eq, bne_eq_false_iff_eq, beq_eq_false_iff_ne] at hb878)
          refine wp_skip ?_
          refine gw_nx (hK872 _ _ ?_)
          refine gw_seq fun K880 hK880 => ?_
          refine wp_block ?_
          refine gw_seq fun K881 hK881 => ?_
          refine wp_region_lit ?_
          refine gw_ev HF879 (want_none rfl) rfl (by decide) (op_move rfl (HF879.ev rfl)) ?_
          intro a882 HF883; clear HF879
          refine gw_ev HF883 (want_none rfl) rfl (by decide) (op_move rfl (HF883.ev rfl)) ?_
          intro a884 HF885; clear HF883
          have HO895 : Own w _ [(Chunk.all [Chunk.row (Kd.int .u8) 5 w.heap.size Sl2 (.slice Al2 al2.length cal2) al2, Chunk.blk l31 (.cells #[.slice A32 chs.length c33, .int .i64 en, .int .i64 wt, .int .i64 0, .int .i64 0, .int .i64 0, .slice none (([] : List Int).length) 0] 83 (0, 0)), Chunk.view k52 S34 A32 chs.length c33 chs, Chunk.row (Kd.int .u8) 5 w.heap.size (fun _ => False) (.slice none (([] : List Int).length) 0) ([] : List Int), Chunk.row (Kd.int .u8) 5 w.heap.size (fun _ => False) (.slice none (([] : List Int).length) 0) ([] : List Int), Chunk.blk g2 (.cells #[.slice A0_0 chs.length c0_0, .int .i64 en, .int .i64 wt] 48 (0, 0))]), Chunk.blk l17 (.cells #[.slice A18 chs.length c19, .int .i64 en, .int .i64 wt, .int .i64 at2, .int .i64 now2, .int .i64 last2, .slice none (([] : List Int).length) 0] 83 (0, 0)), Chunk.view k52 S20 A18 chs.length c19 chs] := Own.bundle (A := [Chunk.row (Kd.int .u8) 5 w.heap.size Sl2 (.slice Al2 al2.length cal2) al2, Chunk.blk l31 (.cells #[.slice A32 chs.length c33, .int .i64 en, .int .i64 wt, .int .i64 0, .int .i64 0, .int .i64 0, .slice none (([] : List Int).length) 0] 83 (0, 0)), Chunk.view k52 S34 A32 chs.length c33 chs, Chunk.row (Kd.int .u8) 5 w.heap.size (fun _ => False) (.slice none (([] : List Int).length) 0) ([] : List Int), Chunk.row (Kd.int .u8) 5 w.heap.size (fun _ => False) (.slice none (([] : List Int).length) 0) ([] : List Int), Chunk.blk g2 (.cells #[.slice A0_0 chs.length c0_0, .int .i64 en, .int .i64 wt] 48 (0, 0))]) (L := [Chunk.blk l17 (.cells #[.slice A18 chs.length c19, .int .i64 en, .int .i64 wt, .int .i64 at2, .int .i64 now2, .int .i64 last2, .slice none (([] : List Int).length) 0] 83 (0, 0)), Chunk.view k52 S20 A18 chs.length c19 chs]) (HO870.sel [0, 1, 2, 3, 6, 7, 4, 5] (by decide))
          refine gw_call HF885 (want_none rfl) rfl (by decide) (op_callL Try.func24 (by kernel_rfl) rfl rfl (ar_cons (HF885.ev rfl) (ar_cons (HF885.ev rfl) ar_nil))) (GLine_.next_calls w _ (Chunk.all [Chunk.row (Kd.int .u8) 5 w.heap.size Sl2 (.slice Al2 al2.length cal2) al2, Chunk.blk l31 (.cells #[.slice A32 chs.length c33, .int .i64 en, .int .i64 wt, .int .i64 0, .int .i64 0, .int .i64 0, .slice none (([] : List Int).length) 0] 83 (0, 0)), Chunk.view k52 S34 A32 chs.length c33 chs, Chunk.row (Kd.int .u8) 5 w.heap.size (fun _ => False) (.slice none (([] : List Int).length) 0) ([] : List Int), Chunk.row (Kd.int .u8) 5 w.heap.size (fun _ => False) (.slice none (([] : List Int).length) 0) ([] : List Int), Chunk.blk g2 (.cells #[.slice A0_0 chs.length c0_0, .int .i64 en, .int .i64 wt] 48 (0, 0))]) l17 A18 c19 chs en wt at2 now2 last2 none 0 ([] : List Int) S20 mo (by (first | omega | ((try simp only [List.length_append, List.length_take, List.length_drop, List.length_nil, List.length_cons, List.length_set] at *); omega))) (by (first | omega | ((try simp only [List.length_append, List.length_take, List.length_drop, List.length_nil, List.length_cons, List.length_set] at *); omega))) (by (first | omega | ((try simp only [List.length_append, List.length_take, List.length_drop, List.length_nil, List.length_cons, List.length_set] at *); omega))) hz HO895) ?_
          rintro e889 w890 ⟨A886, c887, S888, rfl, hb891⟩
          refine ⟨_, rfl, fun a892 HF893 => ?_⟩
          have HO894 : Own w w890 [Chunk.row (Kd.int .u8) 5 w.heap.size Sl2 (.slice Al2 al2.length cal2) al2, Chunk.blk l31 (.cells #[.slice A32 chs.length c33, .int .i64 en, .int .i64 wt, .int .i64 0, .int .i64 0, .int .i64 0, .slice none (([] : List Int).length) 0] 83 (0, 0)), Chunk.view k52 S34 A32 chs.length c33 chs, Chunk.row (Kd.int .u8) 5 w.heap.size (fun _ => False) (.slice none (([] : List Int).length) 0) ([] : List Int), Chunk.row (Kd.int .u8) 5 w.heap.size (fun _ => False) (.slice none (([] : List Int).length) 0) ([] : List Int), Chunk.blk g2 (.cells #[.slice A0_0 chs.length c0_0, .int .i64 en, .int .i64 wt] 48 (0, 0)), Chunk.row (Kd.int .u8) 5 w.heap.size S888 (.slice A886 ((nextL chs en wt at2 now2 last2 mo).b.length) c887) ((nextL chs en wt at2 now2 last2 mo).b), Chunk.blk l17 (.cells #[.slice A18 chs.length c19, .int .i64 en, .int .i64 wt, .int .i64 ((nextL chs en wt at2 now2 last2 mo).at_), .int .i64 ((nextL chs en wt at2 now2 last2 mo).now), .int .i64 ((nextL chs en wt at2 now2 last2 mo).last), .slice none (([] : List Int).length) 0] 83 (0, 0)), Chunk.view k52 S20 A18 chs.length c19 chs] := Own.unbundle (A := [Chunk.row (Kd.int .u8) 5 w.heap.size Sl2 (.slice Al2 al2.length cal2) al2, Chunk.blk l31 (.cells #[.slice A32 chs.length c33, .int .i64 en, .int .i64 wt, .int .i64 0, .int .i64 0, .int .i64 0, .slice none (([] : List Int).length) 0] 83 (0, 0)), Chunk.view k52 S34 A32 chs.length c33 chs, Chunk.row (Kd.int .u8) 5 w.heap.size (fun _ => False) (.slice none (([] : List Int).length) 0) ([] : List Int), Chunk.row (Kd.int .u8) 5 w.heap.size (fun _ => False) (.slice none (([] : List Int).length) 0) ([] : List Int), Chunk.blk g2 (.cells #[.slice A0_0 chs.length c0_0, .int .i64 en, .int .i64 wt] 48 (0, 0))]) (L := [Chunk.row (Kd.int .u8) 5 w.heap.size S888 (.slice A886 ((nextL chs en wt at2 now2 last2 mo).b.length) c887) ((nextL chs en wt at2 now2 last2 mo).b), Chunk.blk l17 (.cells #[.slice A18 chs.length c19, .int .i64 en, .int .i64 wt, .int .i64 ((nextL chs en wt at2 now2 last2 mo).at_), .int .i64 ((nextL chs en wt at2 now2 last2 mo).now), .int .i64 ((nextL chs en wt at2 now2 last2 mo).last), .slice none (([] : List Int).length) 0] 83 (0, 0)), Chunk.view k52 S20 A18 chs.length c19 chs]) (hb891.sel [1, 0, 2, 3] (by decide))
          clear HO895
          clear HF885 HO870 hb891
          have HO897 : Own w w890 [Chunk.row (Kd.int .u8) 5 w.heap.size Sl2 (.slice Al2 al2.length cal2) al2, Chunk.blk l31 (.cells #[.slice A32 chs.length c33, .int .i64 en, .int .i64 wt, .int .i64 0, .int .i64 0, .int .i64 0, .slice none (([] : List Int).length) 0] 83 (0, 0)), Chunk.view k52 S34 A32 chs.length c33 chs, Chunk.row (Kd.int .u8) 5 w.heap.size (fun _ => False) (.slice none (([] : List Int).length) 0) ([] : List Int), Chunk.row (Kd.int .u8) 5 w.heap.size (fun _ => False) (.slice none (([] : List Int).length) 0) ([] : List Int), Chunk.blk g2 (.cells #[.slice A0_0 chs.length c0_0, .int .i64 en, .int .i64 wt] 48 (0, 0)), Chunk.row (Kd.int .u8) 5 w.heap.size S888 (.slice A886 ((nextL chs en wt at2 now2 last2 mo).b.length) c887) ((nextL chs en wt at2 now2 last2 mo).b), Chunk.blk l17 (.cells #[.slice A18 chs.length c19, .int .i64 en, .int .i64 wt, .int .i64 ((nextL chs en wt at2 now2 last2 mo).at_), .int .i64 ((nextL chs en wt at2 now2 last2 mo).now), .int .i64 ((nextL chs en wt at2 now2 last2 mo).last), .slice none (([] : List Int).length) 0] 83 (0, 0)), Chunk.view k52 S20 A18 chs.length c19 chs] := HO894
          clear HO894
          refine gw_ev HF893 (want_none rfl) rfl (by decide) (op_move rfl (HF893.ev rfl)) ?_
          intro a898 HF899; clear HF893
          have hx1 := reach_next (en := en) (wt := wt) (lim := mo) (most' := mo) hrr2 ha2 (Int.le_refl _) (Int.le_refl _)
          have hx2 := next_st chs en wt at2 now2 last2 mo ha2 hl2
          have hx3 := reach_len hx1.1 hsum
          rw [List.length_append] at hx3
          refine gw_ev HF899 (want_none rfl) rfl (by decide) (op_extract rfl (HF899.ev rfl) rfl) ?_
          intro a900 HF901; clear HF899
          refine gw_ev HF901 (want_none rfl) rfl (by decide) (op_extract rfl (HF901.ev rfl) rfl) ?_
          intro a902 HF903; clear HF901
          refine gw_ev HF903 (want_none rfl) rfl (by decide) (op_assign rfl (HF903.ev rfl)) ?_
          intro a904 HF905; clear HF903
          refine gw_ev HF905 (want_none rfl) rfl (by decide) (op_assign rfl (HF905.ev rfl)) ?_
          intro a906 HF907; clear HF905
          refine wpList_nil ?_
          refine gw_nx (hK881 _ _ ?_)
          refine gw_seq fun K908 hK908 => ?_
          refine gw_seq fun K909 hK909 => ?_
          refine wp_region_lit ?_
          refine gw_ev HF907 (want_none rfl) rfl (by decide) (op_move rfl (HF907.ev rfl)) ?_
          intro a910 HF911; clear HF907
          refine gw_ev HF911 (want_none rfl) rfl (by decide) (op_nei rfl (HF911.ev rfl) (ev_c _ _)) ?_
          intro a912 HF913; clear HF911
          refine wpList_nil ?_
          refine gw_nx (hK909 _ _ ?_)
          refine gw_cond HF913 rfl (fun hb914 => ?_) (fun hb914 => ?_)
          · skip
            have HF915 := HF913.subst_ (d := 93) (b := true) rfl hb914
            clear HF913
            (try simp only [decide_eq_true_eq, decide_eq_false_iff_not, Bool.not_eq_true', Bool.not_eq_false', Bool.not_eq_true, Bool.not_eq_false, ne_eq, Decidable.not_not, Int.not_lt, Int.not_le, not_true_eq_false, not_false_eq_true, bne_iff_ne, beq_iff_eq, bne_eq_false_iff_eq, beq_eq_false_iff_ne] at hb914)
            have FA := fin_stop hrr2 ha2 hb914
            refine wp_exit ?_
            refine gw_thx ?_
            refine gw_out (by decide) ?_
            refine gw_thx ?_
            refine gw_thx ?_
            refine gw_in ?_
            refine gw_nx (hK861 _ _ ?_)
            refine gw_seq fun K916 hK916 => ?_
            refine wp_region_lit ?_
            refine gw_lit (enc := Value.int .u8) (fun _ => rfl) (xs := ([] : List Int)) (e := 5) HF915 HO897 (want_none rfl) rfl (by decide) (op_bslice (by kernel_rfl) rfl pt_nil) (by simp) ?_
            intro A917 S918 a919 w920 HF921 HO922; clear HF915 HO897
            have HO923 : Own w w920 [Chunk.row (Kd.int .u8) 5 w.heap.size S918 (.slice A917 ((([] : List Int)).length) ((([] : List Int)).length)) ([] : List Int), Chunk.row (Kd.int .u8) 5 w.heap.size Sl2 (.slice Al2 al2.length cal2) al2, Chunk.blk l31 (.cells #[.slice A32 chs.length c33, .int .i64 en, .int .i64 wt, .int .i64 0, .int .i64 0, .int .i64 0, .slice none (([] : List Int).length) 0] 83 (0, 0)), Chunk.view k52 S34 A32 chs.length c33 chs, Chunk.row (Kd.int .u8) 5 w.heap.size (fun _ => False) (.slice none (([] : List Int).length) 0) ([] : List Int), Chunk.row (Kd.int .u8) 5 w.heap.size (fun _ => False) (.slice none (([] : List Int).length) 0) ([] : List Int), Chunk.blk g2 (.cells #[.slice A0_0 chs.length c0_0, .int .i64 en, .int .i64 wt] 48 (0, 0)), Chunk.row (Kd.int .u8) 5 w.heap.size S888 (.slice A886 ((nextL chs en wt at2 now2 last2 mo).b.length) c887) ((nextL chs en wt at2 now2 last2 mo).b), Chunk.blk l17 (.cells #[.slice A18 chs.length c19, .int .i64 en, .int .i64 wt, .int .i64 ((nextL chs en wt at2 now2 last2 mo).at_), .int .i64 ((nextL chs en wt at2 now2 last2 mo).now), .int .i64 ((nextL chs en wt at2 now2 last2 mo).last), .slice none (([] : List Int).length) 0] 83 (0, 0)), Chunk.view k52 S20 A18 chs.length c19 chs] := HO922
            clear HO922
            refine gw_ev HF921 (want_none rfl) rfl (by decide) (op_assign rfl (HF921.ev rfl)) ?_
            intro a924 HF925; clear HF921
            refine wpList_nil ?_
            refine gw_nx (hK916 _ _ ?_)
            refine gw_seq fun K926 hK926 => ?_
            refine gw_seq fun K927 hK927 => ?_
            refine wp_region_lit ?_
            refine gw_ev HF925 (want_none rfl) rfl (by decide) (op_assign rfl (ev_c _ _)) ?_
            intro a928 HF929; clear HF925
            refine wpList_nil ?_
            refine gw_nx (hK927 _ _ ?_)
            refine wp_block ?_
            refine gw_loop (fun m_ a_ w_ => ∃ (j3 : Int) (at3 : Int) (now3 : Int) (last3 : Int) (al3 : List Int) (Al3 : Option Addr) (cal3 : Nat) (Sl3 : Nat → Prop), Fr 129 a_ [(18, .int .i64 j3), (17, .slice Al3 al3.length cal3), (7, .slice Al2 al2.length cal2), (8, .int .i64 mo), (2, .pointer (some ⟨g2, 0, none⟩)), (5, .pointer (some ⟨l17, 0, none⟩)), (6, .pointer (some ⟨l31, 0, none⟩))] ∧ Own w w_ [Chunk.row (Kd.int .u8) 5 w.heap.size Sl3 (.slice Al3 al3.length cal3) al3, Chunk.row (Kd.int .u8) 5 w.heap.size Sl2 (.slice Al2 al2.length cal2) al2, Chunk.blk l31 (.cells #[.slice A32 chs.length c33, .int .i64 en, .int .i64 wt, .int .i64 at3, .int .i64 now3, .int .i64 last3, .slice none (([] : List Int).length) 0] 83 (0, 0)), Chunk.view k52 S34 A32 chs.length c33 chs, Chunk.row (Kd.int .u8) 5 w.heap.size (fun _ => False) (.slice none (([] : List Int).length) 0) ([] : List Int), Chunk.row (Kd.int .u8) 5 w.heap.size (fun _ => False) (.slice none (([] : List Int).length) 0) ([] : List Int), Chunk.blk g2 (.cells #[.slice A0_0 chs.length c0_0, .int .i64 en, .int .i64 wt] 48 (0, 0)), Chunk.row (Kd.int .u8) 5 w.heap.size S888 (.slice A886 ((nextL chs en wt at2 now2 last2 mo).b.length) c887) ((nextL chs en wt at2 now2 last2 mo).b), Chunk.blk l17 (.cells #[.slice A18 chs.length c19, .int .i64 en, .int .i64 wt, .int .i64 ((nextL chs en wt at2 now2 last2 mo).at_), .int .i64 ((nextL chs en wt at2 now2 last2 mo).now), .int .i64 ((nextL chs en wt at2 now2 last2 mo).last), .slice none (([] : List Int).length) 0] 83 (0, 0)), Chunk.view k52 S20 A18 chs.length c19 chs] ∧ (0 ≤ j3 ∧ j3 ≤ 300 ∧ j3 ≤ at3) ∧ (0 ≤ at3 ∧ at3 ≤ chs.length) ∧ (0 ≤ last3 ∧ last3 ≤ 1000000 * at3) ∧ (Reach chs at3 now3 last3 al3 mo) ∧ m_ = (300 - j3.toNat)) ((300 - (0 : Int).toNat)) ?_ ?_
            · refine ⟨0, 0, 0, 0, [], A917, _, _, (HF929.pick (t := 18) rfl (HF929.pick (t := 17) rfl (HF929.pick (t := 7) rfl (HF929.pick (t := 8) rfl (HF929.pick (t := 2) rfl (HF929.pick (t := 5) rfl (HF929.pick (t := 6) rfl HF929.nil))))))), HO923.sel [0, 1, 2, 3, 4, 5, 6, 7, 8, 9] (by decide), ?_, ?_, ?_, ?_, rfl⟩
              · (first | omega | ((try simp only [List.length_append, List.length_take, List.length_drop, List.length_nil, List.length_cons, List.length_set] at *); omega))
              · (first | omega | ((try simp only [List.length_append, List.length_take, List.length_drop, List.length_nil, List.length_cons, List.length_set] at *); omega))
              · (first | omega | ((try simp only [List.length_append, List.length_take, List.length_drop, List.length_nil, List.length_cons, List.length_set] at *); omega))
              · exact ⟨by simp [lastL], by simp [bytesL], by (first | omega | ((try simp only [List.length_append, List.length_take, List.length_drop, List.length_nil, List.length_cons, List.length_set] at *); omega)), by (first | omega | ((try simp only [List.length_append, List.length_take, List.length_drop, List.length_nil, List.length_cons, List.length_set] at *); omega)), by (first | omega | ((try simp only [List.length_append, List.length_take, List.length_drop, List.length_nil, List.length_cons, List.length_set] at *); omega))⟩
            · rintro m931 a932 w933 ⟨j3, at3, now3, last3, al3, Al3, cal3, Sl3, HF934, HO935, hi3, ha3, hl3, hrr3, hm936⟩
              refine gw_seq fun K937 hK937 => ?_
              refine gw_seq fun K938 hK938 => ?_
              refine wp_region_lit ?_
              refine gw_ev HF934 (want_none rfl) rfl (by decide) (op_move rfl (HF934.ev rfl)) ?_
              intro a939 HF940; clear HF934
              refine gw_ev HF940 (want_none rfl) rfl (by decide) (op_lss rfl (HF940.ev rfl) (ev_c _ _)) ?_
              intro a941 HF942; clear HF940
              refine wpList_nil ?_
              refine gw_nx (hK938 _ _ ?_)
              refine gw_cond HF942 rfl (fun hb943 => ?_) (fun hb943 => ?_)
              · skip
                have HF944 := HF942.subst_ (d := 99) (b := true) rfl hb943
                clear HF942
                (try simp only [decide_eq_true_eq, decide_eq_false_iff_not, Bool.not_eq_true', Bool.not_eq_false', Bool.not_eq_true, Bool.not_eq_false, ne_eq, Decidable.not_not, Int.not_lt, Int.not_le, not_true_eq_false, not_false_eq_true, bne_iff_ne, beq_iff_eq, bne_eq_false_iff_eq, beq_eq_false_iff_ne] at hb943)
                refine wp_skip ?_
                refine gw_nx (hK937 _ _ ?_)
                refine gw_seq fun K945 hK945 => ?_
                refine wp_block ?_
                refine gw_seq fun K946 hK946 => ?_
                refine wp_region_lit ?_
                refine gw_ev HF944 (want_none rfl) rfl (by decide) (op_move rfl (HF944.ev rfl)) ?_
                intro a947 HF948; clear HF944
                refine gw_ev HF948 (want_none rfl) rfl (by decide) (op_move rfl (HF948.ev rfl)) ?_
                intro a949 HF950; clear HF948
                have HO960 : Own w _ [(Chunk.all [Chunk.row (Kd.int .u8) 5 w.heap.size Sl3 (.slice Al3 al3.length cal3) al3, Chunk.row (Kd.int .u8) 5 w.heap.size Sl2 (.slice Al2 al2.length cal2) al2, Chunk.row (Kd.int .u8) 5 w.heap.size (fun _ => False) (.slice none (([] : List Int).length) 0) ([] : List Int), Chunk.row (Kd.int .u8) 5 w.heap.size (fun _ => False) (.slice none (([] : List Int).length) 0) ([] : List Int), Chunk.blk g2 (.cells #[.slice A0_0 chs.length c0_0, .int .i64 en, .int .i64 wt] 48 (0, 0)), Chunk.row (Kd.int .u8) 5 w.heap.size S888 (.slice A886 ((nextL chs en wt at2 now2 last2 mo).b.length) c887) ((nextL chs en wt at2 now2 last2 mo).b), Chunk.blk l17 (.cells #[.slice A18 chs.length c19, .int .i64 en, .int .i64 wt, .int .i64 ((nextL chs en wt at2 now2 last2 mo).at_), .int .i64 ((nextL chs en wt at2 now2 last2 mo).now), .int .i64 ((nextL chs en wt at2 now2 last2 mo).last), .slice none (([] : List Int).length) 0] 83 (0, 0)), Chunk.view k52 S20 A18 chs.length c19 chs]), Chunk.blk l31 (.cells #[.slice A32 chs.length c33, .int .i64 en, .int .i64 wt, .int .i64 at3, .int .i64 now3, .int .i64 last3, .slice none (([] : List Int).length) 0] 83 (0, 0)), Chunk.view k52 S34 A32 chs.length c33 chs] := Own.bundle (A := [Chunk.row (Kd.int .u8) 5 w.heap.size Sl3 (.slice Al3 al3.length cal3) al3, Chunk.row (Kd.int .u8) 5 w.heap.size Sl2 (.slice Al2 al2.length cal2) al2, Chunk.row (Kd.int .u8) 5 w.heap.size (fun _ => False) (.slice none (([] : List Int).length) 0) ([] : List Int), Chunk.row (Kd.int .u8) 5 w.heap.size (fun _ => False) (.slice none (([] : List Int).length) 0) ([] : List Int), Chunk.blk g2 (.cells #[.slice A0_0 chs.length c0_0, .int .i64 en, .int .i64 wt] 48 (0, 0)), Chunk.row (Kd.int .u8) 5 w.heap.size S888 (.slice A886 ((nextL chs en wt at2 now2 last2 mo).b.length) c887) ((nextL chs en wt at2 now2 last2 mo).b), Chunk.blk l17 (.cells #[.slice A18 chs.length c19, .int .i64 en, .int .i64 wt, .int .i64 ((nextL chs en wt at2 now2 last2 mo).at_), .int .i64 ((nextL chs en wt at2 now2 last2 mo).now), .int .i64 ((nextL chs en wt at2 now2 last2 mo).last), .slice none (([] : List Int).length) 0] 83 (0, 0)), Chunk.view k52 S20 A18 chs.length c19 chs]) (L := [Chunk.blk l31 (.cells #[.slice A32 chs.length c33, .int .i64 en, .int .i64 wt, .int .i64 at3, .int .i64 now3, .int .i64 last3, .slice none (([] : List Int).length) 0] 83 (0, 0)), Chunk.view k52 S34 A32 chs.length c33 chs]) (HO935.sel [0, 1, 4, 5, 6, 7, 8, 9, 2, 3] (by decide))
                refine gw_call HF950 (want_none rfl) rfl (by decide) (op_callL Try.func24 (by kernel_rfl) rfl rfl (ar_cons (HF950.ev rfl) (ar_cons (HF950.ev rfl) ar_nil))) (GLine_.next_calls w _ (Chunk.all [Chunk.row (Kd.int .u8) 5 w.heap.size Sl3 (.slice Al3 al3.length cal3) al3, Chunk.row (Kd.int .u8) 5 w.heap.size Sl2 (.slice Al2 al2.length cal2) al2, Chunk.row (Kd.int .u8) 5 w.heap.size (fun _ => False) (.slice none (([] : List Int).length) 0) ([] : List Int), Chunk.row (Kd.int .u8) 5 w.heap.size (fun _ => False) (.slice none (([] : List Int).length) 0) ([] : List Int), Chunk.blk g2 (.cells #[.slice A0_0 chs.length c0_0, .int .i64 en, .int .i64 wt] 48 (0, 0)), Chunk.row (Kd.int .u8) 5 w.heap.size S888 (.slice A886 ((nextL chs en wt at2 now2 last2 mo).b.length) c887) ((nextL chs en wt at2 now2 last2 mo).b), Chunk.blk l17 (.cells #[.slice A18 chs.length c19, .int .i64 en, .int .i64 wt, .int .i64 ((nextL chs en wt at2 now2 last2 mo).at_), .int .i64 ((nextL chs en wt at2 now2 last2 mo).now), .int .i64 ((nextL chs en wt at2 now2 last2 mo).last), .slice none (([] : List Int).length) 0] 83 (0, 0)), Chunk.view k52 S20 A18 chs.length c19 chs]) l31 A32 c33 chs en wt at3 now3 last3 none 0 ([] : List Int) S34 mo (by (first | omega | ((try simp only [List.length_append, List.length_take, List.length_drop, List.length_nil, List.length_cons, List.length_set] at *); omega))) (by (first | omega | ((try simp only [List.length_append, List.length_take, List.length_drop, List.length_nil, List.length_cons, List.length_set] at *); omega))) (by (first | omega | ((try simp only [List.length_append, List.length_take, List.length_drop, List.length_nil, List.length_cons, List.length_set] at *); omega))) hz HO960) ?_
                rintro e954 w955 ⟨A951, c952, S953, rfl, hb956⟩
                refine ⟨_, rfl, fun a957 HF958 => ?_⟩
                have HO959 : Own w w955 [Chunk.row (Kd.int .u8) 5 w.heap.size Sl3 (.slice Al3 al3.length cal3) al3, Chunk.row (Kd.int .u8) 5 w.heap.size Sl2 (.slice Al2 al2.length cal2) al2, Chunk.row (Kd.int .u8) 5 w.heap.size (fun _ => False) (.slice none (([] : List Int).length) 0) ([] : List Int), Chunk.row (Kd.int .u8) 5 w.heap.size (fun _ => False) (.slice none (([] : List Int).length) 0) ([] : List Int), Chunk.blk g2 (.cells #[.slice A0_0 chs.length c0_0, .int .i64 en, .int .i64 wt] 48 (0, 0)), Chunk.row (Kd.int .u8) 5 w.heap.size S888 (.slice A886 ((nextL chs en wt at2 now2 last2 mo).b.length) c887) ((nextL chs en wt at2 now2 last2 mo).b), Chunk.blk l17 (.cells #[.slice A18 chs.length c19, .int .i64 en, .int .i64 wt, .int .i64 ((nextL chs en wt at2 now2 last2 mo).at_), .int .i64 ((nextL chs en wt at2 now2 last2 mo).now), .int .i64 ((nextL chs en wt at2 now2 last2 mo).last), .slice none (([] : List Int).length) 0] 83 (0, 0)), Chunk.view k52 S20 A18 chs.length c19 chs, Chunk.row (Kd.int .u8) 5 w.heap.size S953 (.slice A951 ((nextL chs en wt at3 now3 last3 mo).b.length) c952) ((nextL chs en wt at3 now3 last3 mo).b), Chunk.blk l31 (.cells #[.slice A32 chs.length c33, .int .i64 en, .int .i64 wt, .int .i64 ((nextL chs en wt at3 now3 last3 mo).at_), .int .i64 ((nextL chs en wt at3 now3 last3 mo).now), .int .i64 ((nextL chs en wt at3 now3 last3 mo).last), .slice none (([] : List Int).length) 0] 83 (0, 0)), Chunk.view k52 S34 A32 chs.length c33 chs] := Own.unbundle (A := [Chunk.row (Kd.int .u8) 5 w.heap.size Sl3 (.slice Al3 al3.length cal3) al3, Chunk.row (Kd.int .u8) 5 w.heap.size Sl2 (.slice Al2 al2.length cal2) al2, Chunk.row (Kd.int .u8) 5 w.heap.size (fun _ => False) (.slice none (([] : List Int).length) 0) ([] : List Int), Chunk.row (Kd.int .u8) 5 w.heap.size (fun _ => False) (.slice none (([] : List Int).length) 0) ([] : List Int), Chunk.blk g2 (.cells #[.slice A0_0 chs.length c0_0, .int .i64 en, .int .i64 wt] 48 (0, 0)), Chunk.row (Kd.int .u8) 5 w.heap.size S888 (.slice A886 ((nextL chs en wt at2 now2 last2 mo).b.length) c887) ((nextL chs en wt at2 now2 last2 mo).b), Chunk.blk l17 (.cells #[.slice A18 chs.length c19, .int .i64 en, .int .i64 wt, .int .i64 ((nextL chs en wt at2 now2 last2 mo).at_), .int .i64 ((nextL chs en wt at2 now2 last2 mo).now), .int .i64 ((nextL chs en wt at2 now2 last2 mo).last), .slice none (([] : List Int).length) 0] 83 (0, 0)), Chunk.view k52 S20 A18 chs.length c19 chs]) (L := [Chunk.row (Kd.int .u8) 5 w.heap.size S953 (.slice A951 ((nextL chs en wt at3 now3 last3 mo).b.length) c952) ((nextL chs en wt at3 now3 last3 mo).b), Chunk.blk l31 (.cells #[.slice A32 chs.length c33, .int .i64 en, .int .i64 wt, .int .i64 ((nextL chs en wt at3 now3 last3 mo).at_), .int .i64 ((nextL chs en wt at3 now3 last3 mo).now), .int .i64 ((nextL chs en wt at3 now3 last3 mo).last), .slice none (([] : List Int).length) 0] 83 (0, 0)), Chunk.view k52 S34 A32 chs.length c33 chs]) (hb956.sel [1, 0, 2, 3] (by decide))
                clear HO960
                clear HF950 HO935 hb956
                have HO962 : Own w w955 [Chunk.row (Kd.int .u8) 5 w.heap.size Sl3 (.slice Al3 al3.length cal3) al3, Chunk.row (Kd.int .u8) 5 w.heap.size Sl2 (.slice Al2 al2.length cal2) al2, Chunk.row (Kd.int .u8) 5 w.heap.size (fun _ => False) (.slice none (([] : List Int).length) 0) ([] : List Int), Chunk.row (Kd.int .u8) 5 w.heap.size (fun _ => False) (.slice none (([] : List Int).length) 0) ([] : List Int), Chunk.blk g2 (.cells #[.slice A0_0 chs.length c0_0, .int .i64 en, .int .i64 wt] 48 (0, 0)), Chunk.row (Kd.int .u8) 5 w.heap.size S888 (.slice A886 ((nextL chs en wt at2 now2 last2 mo).b.length) c887) ((nextL chs en wt at2 now2 last2 mo).b), Chunk.blk l17 (.cells #[.slice A18 chs.length c19, .int .i64 en, .int .i64 wt, .int .i64 ((nextL chs en wt at2 now2 last2 mo).at_), .int .i64 ((nextL chs en wt at2 now2 last2 mo).now), .int .i64 ((nextL chs en wt at2 now2 last2 mo).last), .slice none (([] : List Int).length) 0] 83 (0, 0)), Chunk.view k52 S20 A18 chs.length c19 chs, Chunk.row (Kd.int .u8) 5 w.heap.size S953 (.slice A951 ((nextL chs en wt at3 now3 last3 mo).b.length) c952) ((nextL chs en wt at3 now3 last3 mo).b), Chunk.blk l31 (.cells #[.slice A32 chs.length c33, .int .i64 en, .int .i64 wt, .int .i64 ((nextL chs en wt at3 now3 last3 mo).at_), .int .i64 ((nextL chs en wt at3 now3 last3 mo).now), .int .i64 ((nextL chs en wt at3 now3 last3 mo).last), .slice none (([] : List Int).length) 0] 83 (0, 0)), Chunk.view k52 S34 A32 chs.length c33 chs] := HO959
                clear HO959
                refine gw_ev HF958 (want_none rfl) rfl (by decide) (op_move rfl (HF958.ev rfl)) ?_
                intro a963 HF964; clear HF958
                have hx1 := reach_next (en := en) (wt := wt) (lim := mo) (most' := mo) hrr3 ha3 (Int.le_refl _) (Int.le_refl _)
                have hx2 := next_st chs en wt at3 now3 last3 mo ha3 hl3
                have hx3 := reach_len hx1.1 hsum
                rw [List.length_append] at hx3
                refine gw_ev HF964 (want_none rfl) rfl (by decide) (op_extract rfl (HF964.ev rfl) rfl) ?_
                intro a965 HF966; clear HF964
                refine gw_ev HF966 (want_none rfl) rfl (by decide) (op_extract rfl (HF966.ev rfl) rfl) ?_
                intro a967 HF968; clear HF966
                refine gw_ev HF968 (want_none rfl) rfl (by decide) (op_assign rfl (HF968.ev rfl)) ?_
                intro a969 HF970; clear HF968
                refine gw_ev HF970 (want_none rfl) rfl (by decide) (op_assign rfl (HF970.ev rfl)) ?_
                intro a971 HF972; clear HF970
                refine wpList_nil ?_
                refine gw_nx (hK946 _ _ ?_)
                refine gw_seq fun K973 hK973 => ?_
                refine gw_seq fun K974 hK974 => ?_
                refine wp_region_lit ?_
                refine gw_ev HF972 (want_none rfl) rfl (by decide) (op_move rfl (HF972.ev rfl)) ?_
                intro a975 HF976; clear HF972
                refine gw_ev HF976 (want_none rfl) rfl (by decide) (op_nei rfl (HF976.ev rfl) (ev_c _ _)) ?_
                intro a977 HF978; clear HF976
                refine wpList_nil ?_
                refine gw_nx (hK974 _ _ ?_)
                refine gw_cond HF978 rfl (fun hb979 => ?_) (fun hb979 => ?_)
                · skip
                  have HF980 := HF978.subst_ (d := 109) (b := true) rfl hb979
                  clear HF978
                  (try simp only [decide_eq_true_eq, decide_eq_false_iff_not, Bool.not_eq_true', Bool.not_eq_false', Bool.not_eq_true, Bool.not_eq_false, ne_eq, Decidable.not_not, Int.not_lt, Int.not_le, not_true_eq_false, not_false_eq_true, bne_iff_ne, beq_iff_eq, bne_eq_false_iff_eq, beq_eq_false_iff_ne] at hb979)
                  have FB := fin_stop hrr3 ha3 hb979
                  refine wp_exit ?_
                  refine gw_thx ?_
                  refine gw_out (by decide) ?_
                  refine gw_thx ?_
                  refine gw_thx ?_
                  refine gw_in ?_
                  refine gw_nx (hK926 _ _ ?_)
                  refine gw_seq fun K981 hK981 => ?_
                  refine wp_region_lit ?_
                  refine gw_ev HF980 (want_none rfl) rfl (by decide) (op_field (gwfld48_0 _ _) rfl (HF980.ev rfl)) ?_
                  intro a982 HF983; clear HF980
                  refine gw_ev HF983 (want_none rfl) rfl (by decide) (op_load1 gwagg46 rfl (HF983.ev rfl) (blk_at (HO962.get 4 rfl) rfl)) ?_
                  intro a984 HF985; clear HF983
                  refine gw_ev HF985 (want_none rfl) rfl (by decide) (op_len Try.underlying46 rfl (HF985.ev rfl)) ?_
                  intro a986 HF987; clear HF985
                  refine gw_ev HF987 (want_none rfl) rfl (by decide) (op_gtr rfl (HF987.ev rfl) (ev_c _ _)) ?_
                  intro a988 HF989; clear HF987
                  refine gw_ev HF989 (want_none rfl) rfl (by decide) (op_move rfl (HF989.ev rfl)) ?_
                  intro a990 HF991; clear HF989
                  rcases Bool.eq_false_or_eq_true (decide (200 < (chs.length : Int))) with hb992 | hb992
                  · skip
                    have HF993 := HF991.subst_ (d := 117) (b := true) rfl hb992
                    clear HF991
                    (try simp only [decide_eq_true_eq, decide_eq_false_iff_not, Bool.not_eq_true', Bool.not_eq_false', Bool.not_eq_true, Bool.not_eq_false, ne_eq, Decidable.not_not, Int.not_lt, Int.not_le, not_true_eq_false, not_false_eq_true, bne_iff_ne, beq_iff_eq, bne_eq_false_iff_eq, beq_eq_false_iff_ne] at hb992)
                    refine gw_off HF993 (want_no HF993 rfl rfl rfl rfl (by decide)) rfl (by decide) ?_
                    intro a994 HF995; clear HF993
                    refine gw_off HF995 (want_no HF995 rfl rfl rfl rfl (by decide)) rfl (by decide) ?_
                    intro a996 HF997; clear HF995
                    refine gw_off HF997 (want_no HF997 rfl rfl rfl rfl (by decide)) rfl (by decide) ?_
                    intro a998 HF999; clear HF997
                    refine gw_off HF999 (want_no HF999 rfl rfl rfl rfl (by decide)) rfl (by decide) ?_
                    intro a1000 HF1001; clear HF999
                    refine gw_off HF1001 (want_undef HF1001 rfl rfl rfl rfl) rfl (by decide) ?_
                    intro a1002 HF1003; clear HF1001
                    refine gw_off HF1003 (want_undef HF1003 rfl rfl rfl rfl) rfl (by decide) ?_
                    intro a1004 HF1005; clear HF1003
                    refine gw_off HF1005 (want_undef HF1005 rfl rfl rfl rfl) rfl (by decide) ?_
                    intro a1006 HF1007; clear HF1005
                    refine gw_off HF1007 (want_undef HF1007 rfl rfl rfl rfl) rfl (by decide) ?_
                    intro a1008 HF1009; clear HF1007
                    refine gw_off HF1009 (want_undef HF1009 rfl rfl rfl rfl) rfl (by decide) ?_
                    intro a1010 HF1011; clear HF1009
                    refine gw_off HF1011 (want_no HF1011 rfl rfl rfl rfl (by decide)) rfl (by decide) ?_
                    intro a1012 HF1013; clear HF1011
                    refine gw_ev HF1013 (want_none rfl) rfl (by decide) (op_pick_t rfl (HF1013.ev rfl) (ev_c _ _)) ?_
                    intro a1014 HF1015; clear HF1013
                    refine gw_ev HF1015 (want_none rfl) rfl (by decide) (op_assign rfl (HF1015.ev rfl)) ?_
                    intro a1016 HF1017; clear HF1015
                    refine wpList_nil ?_
                    refine gw_nx (hK981 _ _ ?_)
                    refine wp_ret ?_
                    refine gw_ret1 HF1017 rfl rfl ?_
                    exact ⟨rfl, HO962.below⟩
                  · skip
                    have HF1018 := HF991.subst_ (d := 117) (b := false) rfl hb992
                    clear HF991
                    (try simp only [decide_eq_true_eq, decide_eq_false_iff_not, Bool.not_eq_true', Bool.not_eq_false', Bool.not_eq_true, Bool.not_eq_false, ne_eq, Decidable.not_not, Int.not_lt, Int.not_le, not_true_eq_false, not_false_eq_true, bne_iff_ne, beq_iff_eq, bne_eq_false_iff_eq, beq_eq_false_iff_ne] at hb992)
                    refine gw_ev HF1018 (want_yes HF1018 rfl rfl rfl rfl) rfl (by decide) (op_move rfl (HF1018.ev rfl)) ?_
                    intro a1019 HF1020; clear HF1018
                    refine gw_ev HF1020 (want_yes HF1020 rfl rfl rfl rfl) rfl (by decide) (op_move rfl (HF1020.ev rfl)) ?_
                    intro a1021 HF1022; clear HF1020
                    refine gw_call HF1022 (want_yes HF1022 rfl rfl rfl rfl) rfl (by decide) (op_callL Try.func18 (by kernel_rfl) rfl rfl (ar_cons (HF1022.ev rfl) (ar_cons (HF1022.ev rfl) ar_nil))) (same_calls Al2 cal2 al2 Al3 cal3 al3 _ (Kd.R_reads' (HO962.get 1 rfl)).2.2 (row_cap (HO962.get 1 rfl)) (Kd.R_reads' (HO962.get 0 rfl)).2.2 (row_cap (HO962.get 0 rfl)) (by first | omega | (have := reach_len hrr2 hsum; omega))) ?_
                    rintro e1023 w1024 ⟨rfl, hb1025⟩
                    refine ⟨_, rfl, fun a1026 HF1027 => ?_⟩
                    have HO1028 := HO962.after hb1025
                    clear HF1022 HO962 hb1025
                    have HF1030 := HF1027.lit (b := true) (by rw [(fin_eq FA FB (by (first | omega | ((try simp only [List.length_append, List.length_take, List.length_drop, List.length_nil, List.length_cons, List.length_set] at *); omega)))).2]; simp)
                    clear HF1027
                    refine gw_ev HF1030 (want_yes HF1030 rfl rfl rfl rfl) rfl (by decide) (op_move rfl (HF1030.ev rfl)) ?_
                    intro a1031 HF1032; clear HF1030
                    refine gw_ev HF1032 (want_yes HF1032 rfl rfl rfl rfl) rfl (by decide) (op_move rfl (HF1032.ev rfl)) ?_
                    intro a1033 HF1034; clear HF1032
                    refine gw_call HF1034 (want_yes HF1034 rfl rfl rfl rfl) rfl (by decide) (op_callL Try.func26 (by kernel_rfl) rfl rfl (ar_cons (HF1034.ev rfl) ar_nil)) (GLine_.rest_calls l17 A18 c19 chs en wt ((nextL chs en wt at2 now2 last2 mo).at_) ((nextL chs en wt at2 now2 last2 mo).now) ((nextL chs en wt at2 now2 last2 mo).last) none 0 ([] : List Int) _ (HO1028.get 6 rfl) (by (first | omega | ((try simp only [List.length_append, List.length_take, List.length_drop, List.length_nil, List.length_cons, List.length_set] at *); omega))) (by (first | omega | ((try simp only [List.length_append, List.length_take, List.length_drop, List.length_nil, List.length_cons, List.length_set] at *); omega))) (by (first | omega | ((try simp only [List.length_append, List.length_take, List.length_drop, List.length_nil, List.length_cons, List.length_set] at *); omega)))) ?_
                    rintro e1035 w1036 ⟨rfl, hb1037⟩
                    refine ⟨_, rfl, fun a1038 HF1039 => ?_⟩
                    have HO1040 := HO1028.after hb1037
                    clear HF1034 HO1028 hb1037
                    refine gw_ev HF1039 (want_yes HF1039 rfl rfl rfl rfl) rfl (by decide) (op_move rfl (HF1039.ev rfl)) ?_
                    intro a1042 HF1043; clear HF1039
                    refine gw_call HF1043 (want_yes HF1043 rfl rfl rfl rfl) rfl (by decide) (op_callL Try.func26 (by kernel_rfl) rfl rfl (ar_cons (HF1043.ev rfl) ar_nil)) (GLine_.rest_calls l31 A32 c33 chs en wt ((nextL chs en wt at3 now3 last3 mo).at_) ((nextL chs en wt at3 now3 last3 mo).now) ((nextL chs en wt at3 now3 last3 mo).last) none 0 ([] : List Int) _ (HO1040.get 9 rfl) (by (first | omega | ((try simp only [List.length_append, List.length_take, List.length_drop, List.length_nil, List.length_cons, List.length_set] at *); omega))) (by (first | omega | ((try simp only [List.length_append, List.length_take, List.length_drop, List.length_nil, List.length_cons, List.length_set] at *); omega))) (by (first | omega | ((try simp only [List.length_append, List.length_take, List.length_drop, List.length_nil, List.length_cons, List.length_set] at *); omega)))) ?_
                    rintro e1044 w1045 ⟨rfl, hb1046⟩
                    refine ⟨_, rfl, fun a1047 HF1048 => ?_⟩
                    have HO1049 := HO1040.after hb1046
                    clear HF1043 HO1040 hb1046
                    refine gw_ev HF1048 (want_yes HF1048 rfl rfl rfl rfl) rfl (by decide) (op_eqi rfl (HF1048.ev rfl) (HF1048.ev rfl)) ?_
                    intro a1051 HF1052; clear HF1048
                    have HF1053 := HF1052.lit (b := true) (by rw [(fin_eq FA FB (by (first | omega | ((try simp only [List.length_append, List.length_take, List.length_drop, List.length_nil, List.length_cons, List.length_set] at *); omega)))).1]; simp)
                    clear HF1052
                    refine gw_ev HF1053 (want_yes HF1053 rfl rfl rfl rfl) rfl (by decide) (op_pick_t rfl (HF1053.ev rfl) (HF1053.ev rfl)) ?_
                    intro a1054 HF1055; clear HF1053
                    refine gw_ev HF1055 (want_none rfl) rfl (by decide) (op_pick_f rfl (HF1055.ev rfl) (HF1055.ev rfl)) ?_
                    intro a1056 HF1057; clear HF1055
                    refine gw_ev HF1057 (want_none rfl) rfl (by decide) (op_assign rfl (HF1057.ev rfl)) ?_
                    intro a1058 HF1059; clear HF1057
                    refine wpList_nil ?_
                    refine gw_nx (hK981 _ _ ?_)
                    refine wp_ret ?_
                    refine gw_ret1 HF1059 rfl rfl ?_
                    exact ⟨rfl, HO1049.below⟩
                · skip
                  have HF1060 := HF978.subst_ (d := 109) (b := false) rfl hb979
                  clear HF978
                  (try simp only [decide_eq_true_eq, decide_eq_false_iff_not, Bool.not_eq_true', Bool.not_eq_false', Bool.not_eq_true, Bool.not_eq_false, ne_eq, Decidable.not_not, Int.not_lt, Int.not_le, not_true_eq_false, not_false_eq_true, bne_iff_ne, beq_iff_eq, bne_eq_false_iff_eq, beq_eq_false_iff_ne] at hb979)
                  have hat1 := congrArg NX.at_ (next_one hb979).2.2
                  refine wp_skip ?_
                  refine gw_nx (hK973 _ _ ?_)
                  refine wp_region_lit ?_
                  refine gw_ev HF1060 (want_none rfl) rfl (by decide) (op_move rfl (HF1060.ev rfl)) ?_
                  intro a1061 HF1062; clear HF1060
                  refine gw_ev HF1062 (want_none rfl) rfl (by decide) (op_move rfl (HF1062.ev rfl)) ?_
                  intro a1063 HF1064; clear HF1062
                  refine gw_append (Kd.int .u8) 0 HF1064 HO962 (want_none rfl) rfl (by decide) rfl Try.underlying26 gwinfo5 rfl (by decide) (by decide) rfl (HF1064.ev rfl) (HF1064.ev rfl) (Kd.R_reads' (HO962.get 8 rfl)).2.2 (fun _ _ h => h) HO962.below.size (by (first | omega | ((try simp only [List.length_append, List.length_take, List.length_drop, List.length_nil, List.length_cons, List.length_set] at *); omega))) ?_
                  intro A1065 c1066 S1067 a1068 w1069 HF1070 HO1071; clear HF1064 HO962
                  have HO1072 : Own w w1069 [Chunk.row (Kd.int .u8) 5 w.heap.size S1067 (.slice A1065 ((al3 ++ (nextL chs en wt at3 now3 last3 mo).b).length) c1066) (al3 ++ (nextL chs en wt at3 now3 last3 mo).b), Chunk.row (Kd.int .u8) 5 w.heap.size Sl2 (.slice Al2 al2.length cal2) al2, Chunk.row (Kd.int .u8) 5 w.heap.size (fun _ => False) (.slice none (([] : List Int).length) 0) ([] : List Int), Chunk.row (Kd.int .u8) 5 w.heap.size (fun _ => False) (.slice none (([] : List Int).length) 0) ([] : List Int), Chunk.blk g2 (.cells #[.slice A0_0 chs.length c0_0, .int .i64 en, .int .i64 wt] 48 (0, 0)), Chunk.row (Kd.int .u8) 5 w.heap.size S888 (.slice A886 ((nextL chs en wt at2 now2 last2 mo).b.length) c887) ((nextL chs en wt at2 now2 last2 mo).b), Chunk.blk l17 (.cells #[.slice A18 chs.length c19, .int .i64 en, .int .i64 wt, .int .i64 ((nextL chs en wt at2 now2 last2 mo).at_), .int .i64 ((nextL chs en wt at2 now2 last2 mo).now), .int .i64 ((nextL chs en wt at2 now2 last2 mo).last), .slice none (([] : List Int).length) 0] 83 (0, 0)), Chunk.view k52 S20 A18 chs.length c19 chs, Chunk.row (Kd.int .u8) 5 w.heap.size S953 (.slice A951 ((nextL chs en wt at3 now3 last3 mo).b.length) c952) ((nextL chs en wt at3 now3 last3 mo).b), Chunk.blk l31 (.cells #[.slice A32 chs.length c33, .int .i64 en, .int .i64 wt, .int .i64 ((nextL chs en wt at3 now3 last3 mo).at_), .int .i64 ((nextL chs en wt at3 now3 last3 mo).now), .int .i64 ((nextL chs en wt at3 now3 last3 mo).last), .slice none (([] : List Int).length) 0] 83 (0, 0)), Chunk.view k52 S34 A32 chs.length c33 chs] := HO1071
                  clear HO1071
                  refine gw_ev HF1070 (want_none rfl) rfl (by decide) (op_assign rfl (HF1070.ev rfl)) ?_
                  intro a1073 HF1074; clear HF1070
                  refine wpList_nil ?_
                  refine gw_blk ?_
                  refine gw_nx (hK945 _ _ ?_)
                  refine wp_region_lit ?_
                  refine gw_ev HF1074 (want_none rfl) rfl (by decide) (op_move rfl (HF1074.ev rfl)) ?_
                  intro a1075 HF1076; clear HF1074
                  refine gw_ev HF1076 (want_none rfl) rfl (by decide) (op_add rfl (HF1076.ev rfl) (ev_c _ _) (by (first | omega | ((try simp only [List.length_append, List.length_take, List.length_drop, List.length_nil, List.length_cons, List.length_set] at *); omega)))) ?_
                  intro a1077 HF1078; clear HF1076
                  refine gw_ev HF1078 (want_none rfl) rfl (by decide) (op_assign rfl (HF1078.ev rfl)) ?_
                  intro a1079 HF1080; clear HF1078
                  refine wpList_nil ?_
                  refine gw_nx ⟨_, ?_, j3 + 1, (nextL chs en wt at3 now3 last3 mo).at_, (nextL chs en wt at3 now3 last3 mo).now, (nextL chs en wt at3 now3 last3 mo).last, al3 ++ (nextL chs en wt at3 now3 last3 mo).b, A1065, _, _, (HF1080.pick (t := 18) rfl (HF1080.pick (t := 17) rfl (HF1080.pick (t := 7) rfl (HF1080.pick (t := 8) rfl (HF1080.pick (t := 2) rfl (HF1080.pick (t := 5) rfl (HF1080.pick (t := 6) rfl HF1080.nil))))))), HO1072.sel [0, 1, 9, 10, 2, 3, 4, 5, 6, 7] (by decide), ?_, ?_, ?_, ?_, rfl⟩
                  · rw [hm936]; (first | omega | ((try simp only [List.length_append, List.length_take, List.length_drop, List.length_nil, List.length_cons, List.length_set] at *); omega))
                  · (first | omega | ((try simp only [List.length_append, List.length_take, List.length_drop, List.length_nil, List.length_cons, List.length_set] at *); omega))
                  · exact hx2.1
                  · exact hx2.2
                  · exact hx1.1
              · skip
                have HF1081 := HF942.subst_ (d := 99) (b := false) rfl hb943
                clear HF942
                (try simp only [decide_eq_true_eq, decide_eq_false_iff_not, Bool.not_eq_true', Bool.not_eq_false', Bool.not_eq_true, Bool.not_eq_false, ne_eq, Decidable.not_not, Int.not_lt, Int.not_le, not_true_eq_false, not_false_eq_true, bne_iff_ne, beq_iff_eq, bne_eq_false_iff_eq, beq_eq_false_iff_ne] at hb943)
                have FB := fin_end hrr3 ha3 (by (first | omega | ((try simp only [List.length_append, List.length_take, List.length_drop, List.length_nil, List.length_cons, List.length_set] at *); omega)))
                refine wp_exit ?_
                refine gw_thx ?_
                refine gw_thx ?_
                refine gw_in ?_
                refine gw_nx (hK926 _ _ ?_)
                refine gw_seq fun K1082 hK1082 => ?_
                refine wp_region_lit ?_
                refine gw_ev HF1081 (want_none rfl) rfl (by decide) (op_field (gwfld48_0 _ _) rfl (HF1081.ev rfl)) ?_
                intro a1083 HF1084; clear HF1081
                refine gw_ev HF1084 (want_none rfl) rfl (by decide) (op_load1 gwagg46 rfl (HF1084.ev rfl) (blk_at (HO935.get 6 rfl) rfl)) ?_
                intro a1085 HF1086; clear HF1084
                refine gw_ev HF1086 (want_none rfl) rfl (by decide) (op_len Try.underlying46 rfl (HF1086.ev rfl)) ?_
                intro a1087 HF1088; clear HF1086
                refine gw_ev HF1088 (want_none rfl) rfl (by decide) (op_gtr rfl (HF1088.ev rfl) (ev_c _ _)) ?_
                intro a1089 HF1090; clear HF1088
                refine gw_ev HF1090 (want_none rfl) rfl (by decide) (op_move rfl (HF1090.ev rfl)) ?_
                intro a1091 HF1092; clear HF1090
                rcases Bool.eq_false_or_eq_true (decide (200 < (chs.length : Int))) with hb1093 | hb1093
                · skip
                  have HF1094 := HF1092.subst_ (d := 117) (b := true) rfl hb1093
                  clear HF1092
                  (try simp only [decide_eq_true_eq, decide_eq_false_iff_not, Bool.not_eq_true', Bool.not_eq_false', Bool.not_eq_true, Bool.not_eq_false, ne_eq, Decidable.not_not, Int.not_lt, Int.not_le, not_true_eq_false, not_false_eq_true, bne_iff_ne, beq_iff_eq, bne_eq_false_iff_eq, beq_eq_false_iff_ne] at hb1093)
                  refine gw_off HF1094 (want_no HF1094 rfl rfl rfl rfl (by decide)) rfl (by decide) ?_
                  intro a1095 HF1096; clear HF1094
                  refine gw_off HF1096 (want_no HF1096 rfl rfl rfl rfl (by decide)) rfl (by decide) ?_
                  intro a1097 HF1098; clear HF1096
                  refine gw_off HF1098 (want_no HF1098 rfl rfl rfl rfl (by decide)) rfl (by decide) ?_
                  intro a1099 HF1100; clear HF1098
                  refine gw_off HF1100 (want_no HF1100 rfl rfl rfl rfl (by decide)) rfl (by decide) ?_
                  intro a1101 HF1102; clear HF1100
                  refine gw_off HF1102 (want_undef HF1102 rfl rfl rfl rfl) rfl (by decide) ?_
                  intro a1103 HF1104; clear HF1102
                  refine gw_off HF1104 (want_undef HF1104 rfl rfl rfl rfl) rfl (by decide) ?_
                  intro a1105 HF1106; clear HF1104
                  refine gw_off HF1106 (want_undef HF1106 rfl rfl rfl rfl) rfl (by decide) ?_
                  intro a1107 HF1108; clear HF1106
                  refine gw_off HF1108 (want_undef HF1108 rfl rfl rfl rfl) rfl (by decide) ?_
                  intro a1109 HF1110; clear HF1108
                  refine gw_off HF1110 (want_undef HF1110 rfl rfl rfl rfl) rfl (by decide) ?_
                  intro a1111 HF1112; clear HF1110
                  refine gw_off HF1112 (want_no HF1112 rfl rfl rfl rfl (by decide)) rfl (by decide) ?_
                  intro a1113 HF1114; clear HF1112
                  refine gw_ev HF1114 (want_none rfl) rfl (by decide) (op_pick_t rfl (HF1114.ev rfl) (ev_c _ _)) ?_
                  intro a1115 HF1116; clear HF1114
                  refine gw_ev HF1116 (want_none rfl) rfl (by decide) (op_assign rfl (HF1116.ev rfl)) ?_
                  intro a1117 HF1118; clear HF1116
                  refine wpList_nil ?_
                  refine gw_nx (hK1082 _ _ ?_)
                  refine wp_ret ?_
                  refine gw_ret1 HF1118 rfl rfl ?_
                  exact ⟨rfl, HO935.below⟩
                · skip
                  have HF1119 := HF1092.subst_ (d := 117) (b := false) rfl hb1093
                  clear HF1092
                  (try simp only [decide_eq_true_eq, decide_eq_false_iff_not, Bool.not_eq_true', Bool.not_eq_false', Bool.not_eq_true, Bool.not_eq_false, ne_eq, Decidable.not_not, Int.not_lt, Int.not_le, not_true_eq_false, not_false_eq_true, bne_iff_ne, beq_iff_eq, bne_eq_false_iff_eq, beq_eq_false_iff_ne] at hb1093)
                  refine gw_ev HF1119 (want_yes HF1119 rfl rfl rfl rfl) rfl (by decide) (op_move rfl (HF1119.ev rfl)) ?_
                  intro a1120 HF1121; clear HF1119
                  refine gw_ev HF1121 (want_yes HF1121 rfl rfl rfl rfl) rfl (by decide) (op_move rfl (HF1121.ev rfl)) ?_
                  intro a1122 HF1123; clear HF1121
                  refine gw_call HF1123 (want_yes HF1123 rfl rfl rfl rfl) rfl (by decide) (op_callL Try.func18 (by kernel_rfl) rfl rfl (ar_cons (HF1123.ev rfl) (ar_cons (HF1123.ev rfl) ar_nil))) (same_calls Al2 cal2 al2 Al3 cal3 al3 _ (Kd.R_reads' (HO935.get 1 rfl)).2.2 (row_cap (HO935.get 1 rfl)) (Kd.R_reads' (HO935.get 0 rfl)).2.2 (row_cap (HO935.get 0 rfl)) (by first | omega | (have := reach_len hrr2 hsum; omega))) ?_
                  rintro e1124 w1125 ⟨rfl, hb1126⟩
                  refine ⟨_, rfl, fun a1127 HF1128 => ?_⟩
                  have HO1129 := HO935.after hb1126
                  clear HF1123 HO935 hb1126
                  have HF1131 := HF1128.lit (b := true) (by rw [(fin_eq FA FB (by (first | omega | ((try simp only [List.length_append, List.length_take, List.length_drop, List.length_nil, List.length_cons, List.length_set] at *); omega)))).2]; simp)
                  clear HF1128
                  refine gw_ev HF1131 (want_yes HF1131 rfl rfl rfl rfl) rfl (by decide) (op_move rfl (HF1131.ev rfl)) ?_
                  intro a1132 HF1133; clear HF1131
                  refine gw_ev HF1133 (want_yes HF1133 rfl rfl rfl rfl) rfl (by decide) (op_move rfl (HF1133.ev rfl)) ?_
                  intro a1134 HF1135; clear HF1133
                  refine gw_call HF1135 (want_yes HF1135 rfl rfl rfl rfl) rfl (by decide) (op_callL Try.func26 (by kernel_rfl) rfl rfl (ar_cons (HF1135.ev rfl) ar_nil)) (GLine_.rest_calls l17 A18 c19 chs en wt ((nextL chs en wt at2 now2 last2 mo).at_) ((nextL chs en wt at2 now2 last2 mo).now) ((nextL chs en wt at2 now2 last2 mo).last) none 0 ([] : List Int) _ (HO1129.get 8 rfl) (by (first | omega | ((try simp only [List.length_append, List.length_take, List.length_drop, List.length_nil, List.length_cons, List.length_set] at *); omega))) (by (first | omega | ((try simp only [List.length_append, List.length_take, List.length_drop, List.length_nil, List.length_cons, List.length_set] at *); omega))) (by (first | omega | ((try simp only [List.length_append, List.length_take, List.length_drop, List.length_nil, List.length_cons, List.length_set] at *); omega)))) ?_
                  rintro e1136 w1137 ⟨rfl, hb1138⟩
                  refine ⟨_, rfl, fun a1139 HF1140 => ?_⟩
                  have HO1141 := HO1129.after hb1138
                  clear HF1135 HO1129 hb1138
                  refine gw_ev HF1140 (want_yes HF1140 rfl rfl rfl rfl) rfl (by decide) (op_move rfl (HF1140.ev rfl)) ?_
                  intro a1143 HF1144; clear HF1140
                  refine gw_call HF1144 (want_yes HF1144 rfl rfl rfl rfl) rfl (by decide) (op_callL Try.func26 (by kernel_rfl) rfl rfl (ar_cons (HF1144.ev rfl) ar_nil)) (GLine_.rest_calls l31 A32 c33 chs en wt at3 now3 last3 none 0 ([] : List Int) _ (HO1141.get 2 rfl) (by (first | omega | ((try simp only [List.length_append, List.length_take, List.length_drop, List.length_nil, List.length_cons, List.length_set] at *); omega))) (by (first | omega | ((try simp only [List.length_append, List.length_take, List.length_drop, List.length_nil, List.length_cons, List.length_set] at *); omega))) (by (first | omega | ((try simp only [List.length_append, List.length_take, List.length_drop, List.length_nil, List.length_cons, List.length_set] at *); omega)))) ?_
                  rintro e1145 w1146 ⟨rfl, hb1147⟩
                  refine ⟨_, rfl, fun a1148 HF1149 => ?_⟩
                  have HO1150 := HO1141.after hb1147
                  clear HF1144 HO1141 hb1147
                  refine gw_ev HF1149 (want_yes HF1149 rfl rfl rfl rfl) rfl (by decide) (op_eqi rfl (HF1149.ev rfl) (HF1149.ev rfl)) ?_
                  intro a1152 HF1153; clear HF1149
                  have HF1154 := HF1153.lit (b := true) (by rw [(fin_eq FA FB (by (first | omega | ((try simp only [List.length_append, List.length_take, List.length_drop, List.length_nil, List.length_cons, List.length_set] at *); omega)))).1]; simp)
                  clear HF1153
                  refine gw_ev HF1154 (want_yes HF1154 rfl rfl rfl rfl) rfl (by decide) (op_pick_t rfl (HF1154.ev rfl) (HF1154.ev rfl)) ?_
                  intro a1155 HF1156; clear HF1154
                  refine gw_ev HF1156 (want_none rfl) rfl (by decide) (op_pick_f rfl (HF1156.ev rfl) (HF1156.ev rfl)) ?_
                  intro a1157 HF1158; clear HF1156
                  refine gw_ev HF1158 (want_none rfl) rfl (by decide) (op_assign rfl (HF1158.ev rfl)) ?_
                  intro a1159 HF1160; clear HF1158
                  refine wpList_nil ?_
                  refine gw_nx (hK1082 _ _ ?_)
                  refine wp_ret ?_
                  refine gw_ret1 HF1160 rfl rfl ?_
                  exact ⟨rfl, HO1150.below⟩
          · skip
            have HF1161 := HF913.subst_ (d := 93) (b := false) rfl hb914
            clear HF913
            (try simp only [decide_eq_true_eq, decide_eq_false_iff_not, Bool.not_eq_true', Bool.not_eq_false', Bool.not_eq_true, Bool.not_eq_false, ne_eq, Decidable.not_not, Int.not_lt, Int.not_le, not_true_eq_false, not_false_eq_true, bne_iff_ne, beq_iff_eq, bne_eq_false_iff_eq, beq_eq_false_iff_ne] at hb914)
            have hat1 := congrArg NX.at_ (next_one hb914).2.2
            refine wp_skip ?_
            refine gw_nx (hK908 _ _ ?_)
            refine wp_region_lit ?_
            refine gw_ev HF1161 (want_none rfl) rfl (by decide) (op_move rfl (HF1161.ev rfl)) ?_
            intro a1162 HF1163; clear HF1161
            refine gw_ev HF1163 (want_none rfl) rfl (by decide) (op_move rfl (HF1163.ev rfl)) ?_
            intro a1164 HF1165; clear HF1163
            refine gw_append (Kd.int .u8) 0 HF1165 HO897 (want_none rfl) rfl (by decide) rfl Try.underlying26 gwinfo5 rfl (by decide) (by decide) rfl (HF1165.ev rfl) (HF1165.ev rfl) (Kd.R_reads' (HO897.get 6 rfl)).2.2 (fun _ _ h => h) HO897.below.size (by (first | omega | ((try simp only [List.length_append, List.length_take, List.length_drop, List.length_nil, List.length_cons, List.length_set] at *); omega))) ?_
            intro A1166 c1167 S1168 a1169 w1170 HF1171 HO1172; clear HF1165 HO897
            have HO1173 : Own w w1170 [Chunk.row (Kd.int .u8) 5 w.heap.size S1168 (.slice A1166 ((al2 ++ (nextL chs en wt at2 now2 last2 mo).b).length) c1167) (al2 ++ (nextL chs en wt at2 now2 last2 mo).b), Chunk.blk l31 (.cells #[.slice A32 chs.length c33, .int .i64 en, .int .i64 wt, .int .i64 0, .int .i64 0, .int .i64 0, .slice none (([] : List Int).length) 0] 83 (0, 0)), Chunk.view k52 S34 A32 chs.length c33 chs, Chunk.row (Kd.int .u8) 5 w.heap.size (fun _ => False) (.slice none (([] : List Int).length) 0) ([] : List Int), Chunk.row (Kd.int .u8) 5 w.heap.size (fun _ => False) (.slice none (([] : List Int).length) 0) ([] : List Int), Chunk.blk g2 (.cells #[.slice A0_0 chs.length c0_0, .int .i64 en, .int .i64 wt] 48 (0, 0)), Chunk.row (Kd.int .u8) 5 w.heap.size S888 (.slice A886 ((nextL chs en wt at2 now2 last2 mo).b.length) c887) ((nextL chs en wt at2 now2 last2 mo).b), Chunk.blk l17 (.cells #[.slice A18 chs.length c19, .int .i64 en, .int .i64 wt, .int .i64 ((nextL chs en wt at2 now2 last2 mo).at_), .int .i64 ((nextL chs en wt at2 now2 last2 mo).now), .int .i64 ((nextL chs en wt at2 now2 last2 mo).last), .slice none (([] : List Int).length) 0] 83 (0, 0)), Chunk.view k52 S20 A18 chs.length c19 chs] := HO1172
            clear HO1172
            refine gw_ev HF1171 (want_none rfl) rfl (by decide) (op_assign rfl (HF1171.ev rfl)) ?_
            intro a1174 HF1175; clear HF1171
            refine wpList_nil ?_
            refine gw_blk ?_
            refine gw_nx (hK880 _ _ ?_)
            refine wp_region_lit ?_
            refine gw_ev HF1175 (want_none rfl) rfl (by decide) (op_move rfl (HF1175.ev rfl)) ?_
            intro a1176 HF1177; clear HF1175
            refine gw_ev HF1177 (want_none rfl) rfl (by decide) (op_add rfl (HF1177.ev rfl) (ev_c _ _) (by (first | omega | ((try simp only [List.length_append, List.length_take, List.length_drop, List.length_nil, List.length_cons, List.length_set] at *); omega)))) ?_
            intro a1178 HF1179; clear HF1177
            refine gw_ev HF1179 (want_none rfl) rfl (by decide) (op_assign rfl (HF1179.ev rfl)) ?_
            intro a1180 HF1181; clear HF1179
            refine wpList_nil ?_
            refine gw_nx ⟨_, ?_, j2 + 1, (nextL chs en wt at2 now2 last2 mo).at_, (nextL chs en wt at2 now2 last2 mo).now, (nextL chs en wt at2 now2 last2 mo).last, al2 ++ (nextL chs en wt at2 now2 last2 mo).b, A1166, _, _, (HF1181.pick (t := 14) rfl (HF1181.pick (t := 7) rfl (HF1181.pick (t := 8) rfl (HF1181.pick (t := 2) rfl (HF1181.pick (t := 5) rfl (HF1181.pick (t := 6) rfl HF1181.nil)))))), HO1173.sel [0, 1, 2, 3, 7, 8, 4, 5] (by decide), ?_, ?_, ?_, ?_, rfl⟩
            · rw [hm871]; (first | omega | ((try simp only [List.length_append, List.length_take, List.length_drop, List.length_nil, List.length_cons, List.length_set] at *); omega))
            · (first | omega | ((try simp only [List.length_append, List.length_take, List.length_drop, List.length_nil, List.length_cons, List.length_set] at *); omega))
            · exact hx2.1
            · exact hx2.2
            · exact hx1.1
        · skip
          have HF1182 := HF877.subst_ (d := 83) (b := false) rfl hb878
          clear HF877
          (try simp only [decide_eq_true_eq, decide_eq_false_iff_not, Bool.not_eq_true', Bool.not_eq_false', Bool.not_eq_true, Bool.not_eq_false, ne_eq, Decidable.not_not, Int.not_lt, Int.not_le, not_true_eq_false, not_false_eq_true, bne_iff_ne, beq_iff_eq, bne_eq_false_iff_eq, beq_eq_false_iff_ne] at hb878)
          have FA := fin_end hrr2 ha2 (by (first | omega | ((try simp only [List.length_append, List.length_take, List.length_drop, List.length_nil, List.length_cons, List.length_set] at *); omega)))
          refine wp_exit ?_
          refine gw_thx ?_
          refine gw_thx ?_
          refine gw_in ?_
          refine gw_nx (hK861 _ _ ?_)
          refine gw_seq fun K1183 hK1183 => ?_
          refine wp_region_lit ?_
          refine gw_lit (enc := Value.int .u8) (fun _ => rfl) (xs := ([] : List Int)) (e := 5) HF1182 HO870 (want_none rfl) rfl (by decide) (op_bslice (by kernel_rfl) rfl pt_nil) (by simp) ?_
          intro A1184 S1185 a1186 w1187 HF1188 HO1189; clear HF1182 HO870
          have HO1190 : Own w w1187 [Chunk.row (Kd.int .u8) 5 w.heap.size S1185 (.slice A1184 ((([] : List Int)).length) ((([] : List Int)).length)) ([] : List Int), Chunk.row (Kd.int .u8) 5 w.heap.size Sl2 (.slice Al2 al2.length cal2) al2, Chunk.blk l31 (.cells #[.slice A32 chs.length c33, .int .i64 en, .int .i64 wt, .int .i64 0, .int .i64 0, .int .i64 0, .slice none (([] : List Int).length) 0] 83 (0, 0)), Chunk.view k52 S34 A32 chs.length c33 chs, Chunk.row (Kd.int .u8) 5 w.heap.size (fun _ => False) (.slice none (([] : List Int).length) 0) ([] : List Int), Chunk.blk l17 (.cells #[.slice A18 chs.length c19, .int .i64 en, .int .i64 wt, .int .i64 at2, .int .i64 now2, .int .i64 last2, .slice none (([] : List Int).length) 0] 83 (0, 0)), Chunk.view k52 S20 A18 chs.length c19 chs, Chunk.row (Kd.int .u8) 5 w.heap.size (fun _ => False) (.slice none (([] : List Int).length) 0) ([] : List Int), Chunk.blk g2 (.cells #[.slice A0_0 chs.length c0_0, .int .i64 en, .int .i64 wt] 48 (0, 0))] := HO1189
          clear HO1189
          refine gw_ev HF1188 (want_none rfl) rfl (by decide) (op_assign rfl (HF1188.ev rfl)) ?_
          intro a1191 HF1192; clear HF1188
          refine wpList_nil ?_
          refine gw_nx (hK1183 _ _ ?_)
          refine gw_seq fun K1193 hK1193 => ?_
          refine gw_seq fun K1194 hK1194 => ?_
          refine wp_region_lit ?_
          refine gw_ev HF1192 (want_none rfl) rfl (by decide) (op_assign rfl (ev_c _ _)) ?_
          intro a1195 HF1196; clear HF1192
          refine wpList_nil ?_
          refine gw_nx (hK1194 _ _ ?_)
          refine wp_block ?_
          refine gw_loop (fun m_ a_ w_ => ∃ (j3 : Int) (at3 : Int) (now3 : Int) (last3 : Int) (al3 : List Int) (Al3 : Option Addr) (cal3 : Nat) (Sl3 : Nat → Prop), Fr 129 a_ [(18, .int .i64 j3), (17, .slice Al3 al3.length cal3), (7, .slice Al2 al2.length cal2), (8, .int .i64 mo), (2, .pointer (some ⟨g2, 0, none⟩)), (5, .pointer (some ⟨l17, 0, none⟩)), (6, .pointer (some ⟨l31, 0, none⟩))] ∧ Own w w_ [Chunk.row (Kd.int .u8) 5 w.heap.size Sl3 (.slice Al3 al3.length cal3) al3, Chunk.row (Kd.int .u8) 5 w.heap.size Sl2 (.slice Al2 al2.length cal2) al2, Chunk.blk l31 (.cells #[.slice A32 chs.length c33, .int .i64 en, .int .i64 wt, .int .i64 at3, .int .i64 now3, .int .i64 last3, .slice none (([] : List Int).length) 0] 83 (0, 0)), Chunk.view k52 S34 A32 chs.length c33 chs, Chunk.row (Kd.int .u8) 5 w.heap.size (fun _ => False) (.slice none (([] : List Int).length) 0) ([] : List Int), Chunk.blk l17 (.cells #[.slice A18 chs.length c19, .int .i64 en, .int .i64 wt, .int .i64 at2, .int .i64 now2, .int .i64 last2, .slice none (([] : List Int).length) 0] 83 (0, 0)), Chunk.view k52 S20 A18 chs.length c19 chs, Chunk.row (Kd.int .u8) 5 w.heap.size (fun _ => False) (.slice none (([] : List Int).length) 0) ([] : List Int), Chunk.blk g2 (.cells #[.slice A0_0 chs.length c0_0, .int .i64 en, .int .i64 wt] 48 (0, 0))] ∧ (0 ≤ j3 ∧ j3 ≤ 300 ∧ j3 ≤ at3) ∧ (0 ≤ at3 ∧ at3 ≤ chs.length) ∧ (0 ≤ last3 ∧ last3 ≤ 1000000 * at3) ∧ (Reach chs at3 now3 last3 al3 mo) ∧ m_ = (300 - j3.toNat)) ((300 - (0 : Int).toNat)) ?_ ?_
          · refine ⟨0, 0, 0, 0, [], A1184, _, _, (HF1196.pick (t := 18) rfl (HF1196.pick (t := 17) rfl (HF1196.pick (t := 7) rfl (HF1196.pick (t := 8) rfl (HF1196.pick (t := 2) rfl (HF1196.pick (t := 5) rfl (HF1196.pick (t := 6) rfl HF1196.nil))))))), HO1190.sel [0, 1, 2, 3, 4, 5, 6, 7, 8] (by decide), ?_, ?_, ?_, ?_, rfl⟩
            · (first | omega | ((try simp only [List.length_append, List.length_take, List.length_drop, List.length_nil, List.length_cons, List.length_set] at *); omega))
            · (first | omega | ((try simp only [List.length_append, List.length_take, List.length_drop, List.length_nil, List.length_cons, List.length_set] at *); omega))
            · (first | omega | ((try simp only [List.length_append, List.length_take, List.length_drop, List.length_nil, List.length_cons, List.length_set] at *); omega))
            · exact ⟨by simp [lastL], by simp [bytesL], by (first | omega | ((try simp only [List.length_append, List.length_take, List.length_drop, List.length_nil, List.length_cons, List.length_set] at *); omega)), by (first | omega | ((try simp only [List.length_append, List.length_take, List.length_drop, List.length_nil, List.length_cons, List.length_set] at *); omega)), by (first | omega | ((try simp only [List.length_append, List.length_take, List.length_drop, List.length_nil, List.length_cons, List.length_set] at *); omega))⟩
          · rintro m1198 a1199 w1200 ⟨j3, at3, now3, last3, al3, Al3, cal3, Sl3, HF1201, HO1202, hi3, ha3, hl3, hrr3, hm1203⟩
            refine gw_seq fun K1204 hK1204 => ?_
            refine gw_seq fun K1205 hK1205 => ?_
            refine wp_region_lit ?_
            refine gw_ev HF1201 (want_none rfl) rfl (by decide) (op_move rfl (HF1201.ev rfl)) ?_
            intro a1206 HF1207; clear HF1201
            refine gw_ev HF1207 (want_none rfl) rfl (by decide) (op_lss rfl (HF1207.ev rfl) (ev_c _ _)) ?_
            intro a1208 HF1209; clear HF1207
            refine wpList_nil ?_
            refine gw_nx (hK1205 _ _ ?_)
            refine gw_cond HF1209 rfl (fun hb1210 => ?_) (fun hb1210 => ?_)
            · skip
              have HF1211 := HF1209.subst_ (d := 99) (b := true) rfl hb1210
              clear HF1209
              (try simp only [decide_eq_true_eq, decide_eq_false_iff_not, Bool.not_eq_true', Bool.not_eq_false', Bool.not_eq_true, Bool.not_eq_false, ne_eq, Decidable.not_not, Int.not_lt, Int.not_le, not_true_eq_false, not_false_eq_true, bne_iff_ne, beq_iff_eq, bne_eq_false_iff_eq, beq_eq_false_iff_ne] at hb1210)
              refine wp_skip ?_
              refine gw_nx (hK1204 _ _ ?_)
              refine gw_seq fun K1212 hK1212 => ?_
              refine wp_block ?_
              refine gw_seq fun K1213 hK1213 => ?_
              refine wp_region_lit ?_
              refine gw_ev HF1211 (want_none rfl) rfl (by decide) (op_move rfl (HF1211.ev rfl)) ?_
              intro a1214 HF1215; clear HF1211
              refine gw_ev HF1215 (want_none rfl) rfl (by decide) (op_move rfl (HF1215.ev rfl)) ?_
              intro a1216 HF1217; clear HF1215
              have HO1227 : Own w _ [(Chunk.all [Chunk.row (Kd.int .u8) 5 w.heap.size Sl3 (.slice Al3 al3.length cal3) al3, Chunk.row (Kd.int .u8) 5 w.heap.size Sl2 (.slice Al2 al2.length cal2) al2, Chunk.row (Kd.int .u8) 5 w.heap.size (fun _ => False) (.slice none (([] : List Int).length) 0) ([] : List Int), Chunk.blk l17 (.cells #[.slice A18 chs.length c19, .int .i64 en, .int .i64 wt, .int .i64 at2, .int .i64 now2, .int .i64 last2, .slice none (([] : List Int).length) 0] 83 (0, 0)), Chunk.view k52 S20 A18 chs.length c19 chs, Chunk.row (Kd.int .u8) 5 w.heap.size (fun _ => False) (.slice none (([] : List Int).length) 0) ([] : List Int), Chunk.blk g2 (.cells #[.slice A0_0 chs.length c0_0, .int .i64 en, .int .i64 wt] 48 (0, 0))]), Chunk.blk l31 (.cells #[.slice A32 chs.length c33, .int .i64 en, .int .i64 wt, .int .i64 at3, .int .i64 now3, .int .i64 last3, .slice none (([] : List Int).length) 0] 83 (0, 0)), Chunk.view k52 S34 A32 chs.length c33 chs] := Own.bundle (A := [Chunk.row (Kd.int .u8) 5 w.heap.size Sl3 (.slice Al3 al3.length cal3) al3, Chunk.row (Kd.int .u8) 5 w.heap.size Sl2 (.slice Al2 al2.length cal2) al2, Chunk.row (Kd.int .u8) 5 w.heap.size (fun _ => False) (.slice none (([] : List Int).length) 0) ([] : List Int), Chunk.blk l17 (.cells #[.slice A18 chs.length c19, .int .i64 en, .int .i64 wt, .int .i64 at2, .int .i64 now2, .int .i64 last2, .slice none (([] : List Int).length) 0] 83 (0, 0)), Chunk.view k52 S20 A18 chs.length c19 chs, Chunk.row (Kd.int .u8) 5 w.heap.size (fun _ => False) (.slice none (([] : List Int).length) 0) ([] : List Int), Chunk.blk g2 (.cells #[.slice A0_0 chs.length c0_0, .int .i64 en, .int .i64 wt] 48 (0, 0))]) (L := [Chunk.blk l31 (.cells #[.slice A32 chs.length c33, .int .i64 en, .int .i64 wt, .int .i64 at3, .int .i64 now3, .int .i64 last3, .slice none (([] : List Int).length) 0] 83 (0, 0)), Chunk.view k52 S34 A32 chs.length c33 chs]) (HO1202.sel [0, 1, 4, 5, 6, 7, 8, 2, 3] (by decide))
              refine gw_call HF1217 (want_none rfl) rfl (by decide) (op_callL Try.func24 (by kernel_rfl) rfl rfl (ar_cons (HF1217.ev rfl) (ar_cons (HF1217.ev rfl) ar_nil))) (GLine_.next_calls w _ (Chunk.all [Chunk.row (Kd.int .u8) 5 w.heap.size Sl3 (.slice Al3 al3.length cal3) al3, Chunk.row (Kd.int .u8) 5 w.heap.size Sl2 (.slice Al2 al2.length cal2) al2, Chunk.row (Kd.int .u8) 5 w.heap.size (fun _ => False) (.slice none (([] : List Int).length) 0) ([] : List Int), Chunk.blk l17 (.cells #[.slice A18 chs.length c19, .int .i64 en, .int .i64 wt, .int .i64 at2, .int .i64 now2, .int .i64 last2, .slice none (([] : List Int).length) 0] 83 (0, 0)), Chunk.view k52 S20 A18 chs.length c19 chs, Chunk.row (Kd.int .u8) 5 w.heap.size (fun _ => False) (.slice none (([] : List Int).length) 0) ([] : List Int), Chunk.blk g2 (.cells #[.slice A0_0 chs.length c0_0, .int .i64 en, .int .i64 wt] 48 (0, 0))]) l31 A32 c33 chs en wt at3 now3 last3 none 0 ([] : List Int) S34 mo (by (first | omega | ((try simp only [List.length_append, List.length_take, List.length_drop, List.length_nil, List.length_cons, List.length_set] at *); omega))) (by (first | omega | ((try simp only [List.length_append, List.length_take, List.length_drop, List.length_nil, List.length_cons, List.length_set] at *); omega))) (by (first | omega | ((try simp only [List.length_append, List.length_take, List.length_drop, List.length_nil, List.length_cons, List.length_set] at *); omega))) hz HO1227) ?_
              rintro e1221 w1222 ⟨A1218, c1219, S1220, rfl, hb1223⟩
              refine ⟨_, rfl, fun a1224 HF1225 => ?_⟩
              have HO1226 : Own w w1222 [Chunk.row (Kd.int .u8) 5 w.heap.size Sl3 (.slice Al3 al3.length cal3) al3, Chunk.row (Kd.int .u8) 5 w.heap.size Sl2 (.slice Al2 al2.length cal2) al2, Chunk.row (Kd.int .u8) 5 w.heap.size (fun _ => False) (.slice none (([] : List Int).length) 0) ([] : List Int), Chunk.blk l17 (.cells #[.slice A18 chs.length c19, .int .i64 en, .int .i64 wt, .int .i64 at2, .int .i64 now2, .int .i64 last2, .slice none (([] : List Int).length) 0] 83 (0, 0)), Chunk.view k52 S20 A18 chs.length c19 chs, Chunk.row (Kd.int .u8) 5 w.heap.size (fun _ => False) (.slice none (([] : List Int).length) 0) ([] : List Int), Chunk.blk g2 (.cells #[.slice A0_0 chs.length c0_0, .int .i64 en, .int .i64 wt] 48 (0, 0)), Chunk.row (Kd.int .u8) 5 w.heap.size S1220 (.slice A1218 ((nextL chs en wt at3 now3 last3 mo).b.length) c1219) ((nextL chs en wt at3 now3 last3 mo).b), Chunk.blk l31 (.cells #[.slice A32 chs.length c33, .int .i64 en, .int .i64 wt, .int .i64 ((nextL chs en wt at3 now3 last3 mo).at_), .int .i64 ((nextL chs en wt at3 now3 last3 mo).now), .int .i64 ((nextL chs en wt at3 now3 last3 mo).last), .slice none (([] : List Int).length) 0] 83 (0, 0)), Chunk.view k52 S34 A32 chs.length c33 chs] := Own.unbundle (A := [Chunk.row (Kd.int .u8) 5 w.heap.size Sl3 (.slice Al3 al3.length cal3) al3, Chunk.row (Kd.int .u8) 5 w.heap.size Sl2 (.slice Al2 al2.length cal2) al2, Chunk.row (Kd.int .u8) 5 w.heap.size (fun _ => False) (.slice none (([] : List Int).length) 0) ([] : List Int), Chunk.blk l17 (.cells #[.slice A18 chs.length c19, .int .i64 en, .int .i64 wt, .int .i64 at2, .int .i64 now2, .int .i64 last2, .slice none (([] : List Int).length) 0] 83 (0, 0)), Chunk.view k52 S20 A18 chs.length c19 chs, Chunk.row (Kd.int .u8) 5 w.heap.size (fun _ => False) (.slice none (([] : List Int).length) 0) ([] : List Int), Chunk.blk g2 (.cells #[.slice A0_0 chs.length c0_0, .int .i64 en, .int .i64 wt] 48 (0, 0))]) (L := [Chunk.row (Kd.int .u8) 5 w.heap.size S1220 (.slice A1218 ((nextL chs en wt at3 now3 last3 mo).b.length) c1219) ((nextL chs en wt at3 now3 last3 mo).b), Chunk.blk l31 (.cells #[.slice A32 chs.length c33, .int .i64 en, .int .i64 wt, .int .i64 ((nextL chs en wt at3 now3 last3 mo).at_), .int .i64 ((nextL chs en wt at3 now3 last3 mo).now), .int .i64 ((nextL chs en wt at3 now3 last3 mo).last), .slice none (([] : List Int).length) 0] 83 (0, 0)), Chunk.view k52 S34 A32 chs.length c33 chs]) (hb1223.sel [1, 0, 2, 3] (by decide))
              clear HO1227
              clear HF1217 HO1202 hb1223
              have HO1229 : Own w w1222 [Chunk.row (Kd.int .u8) 5 w.heap.size Sl3 (.slice Al3 al3.length cal3) al3, Chunk.row (Kd.int .u8) 5 w.heap.size Sl2 (.slice Al2 al2.length cal2) al2, Chunk.row (Kd.int .u8) 5 w.heap.size (fun _ => False) (.slice none (([] : List Int).length) 0) ([] : List Int), Chunk.blk l17 (.cells #[.slice A18 chs.length c19, .int .i64 en, .int .i64 wt, .int .i64 at2, .int .i64 now2, .int .i64 last2, .slice none (([] : List Int).length) 0] 83 (0, 0)), Chunk.view k52 S20 A18 chs.length c19 chs, Chunk.row (Kd.int .u8) 5 w.heap.size (fun _ => False) (.slice none (([] : List Int).length) 0) ([] : List Int), Chunk.blk g2 (.cells #[.slice A0_0 chs.length c0_0, .int .i64 en, .int .i64 wt] 48 (0, 0)), Chunk.row (Kd.int .u8) 5 w.heap.size S1220 (.slice A1218 ((nextL chs en wt at3 now3 last3 mo).b.length) c1219) ((nextL chs en wt at3 now3 last3 mo).b), Chunk.blk l31 (.cells #[.slice A32 chs.length c33, .int .i64 en, .int .i64 wt, .int .i64 ((nextL chs en wt at3 now3 last3 mo).at_), .int .i64 ((nextL chs en wt at3 now3 last3 mo).now), .int .i64 ((nextL chs en wt at3 now3 last3 mo).last), .slice none (([] : List Int).length) 0] 83 (0, 0)), Chunk.view k52 S34 A32 chs.length c33 chs] := HO1226
              clear HO1226
              refine gw_ev HF1225 (want_none rfl) rfl (by decide) (op_move rfl (HF1225.ev rfl)) ?_
              intro a1230 HF1231; clear HF1225
              have hx1 := reach_next (en := en) (wt := wt) (lim := mo) (most' := mo) hrr3 ha3 (Int.le_refl _) (Int.le_refl _)
              have hx2 := next_st chs en wt at3 now3 last3 mo ha3 hl3
              have hx3 := reach_len hx1.1 hsum
              rw [List.length_append] at hx3
              refine gw_ev HF1231 (want_none rfl) rfl (by decide) (op_extract rfl (HF1231.ev rfl) rfl) ?_
              intro a1232 HF1233; clear HF1231
              refine gw_ev HF1233 (want_none rfl) rfl (by decide) (op_extract rfl (HF1233.ev rfl) rfl) ?_
              intro a1234 HF1235; clear HF1233
              refine gw_ev HF1235 (want_none rfl) rfl (by decide) (op_assign rfl (HF1235.ev rfl)) ?_
              intro a1236 HF1237; clear HF1235
              refine gw_ev HF1237 (want_none rfl) rfl (by decide) (op_assign rfl (HF1237.ev rfl)) ?_
              intro a1238 HF1239; clear HF1237
              refine wpList_nil ?_
              refine gw_nx (hK1213 _ _ ?_)
              refine gw_seq fun K1240 hK1240 => ?_
              refine gw_seq fun K1241 hK1241 => ?_
              refine wp_region_lit ?_
              refine gw_ev HF1239 (want_none rfl) rfl (by decide) (op_move rfl (HF1239.ev rfl)) ?_
              intro a1242 HF1243; clear HF1239
              refine gw_ev HF1243 (want_none rfl) rfl (by decide) (op_nei rfl (HF1243.ev rfl) (ev_c _ _)) ?_
              intro a1244 HF1245; clear HF1243
              refine wpList_nil ?_
              refine gw_nx (hK1241 _ _ ?_)
              refine gw_cond HF1245 rfl (fun hb1246 => ?_) (fun hb1246 => ?_)
              · skip
                have HF1247 := HF1245.subst_ (d := 109) (b := true) rfl hb1246
                clear HF1245
                (try simp only [decide_eq_true_eq, decide_eq_false_iff_not, Bool.not_eq_true', Bool.not_eq_false', Bool.not_eq_true, Bool.not_eq_false, ne_eq, Decidable.not_not, Int.not_lt, Int.not_le, not_true_eq_false, not_false_eq_true, bne_iff_ne, beq_iff_eq, bne_eq_false_iff_eq, beq_eq_false_iff_ne] at hb1246)
                have FB := fin_stop hrr3 ha3 hb1246
                refine wp_exit ?_
                refine gw_thx ?_
                refine gw_out (by decide) ?_
                refine gw_thx ?_
                refine gw_thx ?_
                refine gw_in ?_
                refine gw_nx (hK1193 _ _ ?_)
                refine gw_seq fun K1248 hK1248 => ?_
                refine wp_region_lit ?_
                refine gw_ev HF1247 (want_none rfl) rfl (by decide) (op_field (gwfld48_0 _ _) rfl (HF1247.ev rfl)) ?_
                intro a1249 HF1250; clear HF1247
                refine gw_ev HF1250 (want_none rfl) rfl (by decide) (op_load1 gwagg46 rfl (HF1250.ev rfl) (blk_at (HO1229.get 6 rfl) rfl)) ?_
                intro a1251 HF1252; clear HF1250
                refine gw_ev HF1252 (want_none rfl) rfl (by decide) (op_len Try.underlying46 rfl (HF1252.ev rfl)) ?_
                intro a1253 HF1254; clear HF1252
                refine gw_ev HF1254 (want_none rfl) rfl (by decide) (op_gtr rfl (HF1254.ev rfl) (ev_c _ _)) ?_
                intro a1255 HF1256; clear HF1254
                refine gw_ev HF1256 (want_none rfl) rfl (by decide) (op_move rfl (HF1256.ev rfl)) ?_
                intro a1257 HF1258; clear HF1256
                rcases Bool.eq_false_or_eq_true (decide (200 < (chs.length : Int))) with hb1259 | hb1259
                · skip
                  have HF1260 := HF1258.subst_ (d := 117) (b := true) rfl hb1259
                  clear HF1258
                  (try simp only [decide_eq_true_eq, decide_eq_false_iff_not, Bool.not_eq_true', Bool.not_eq_false', Bool.not_eq_true, Bool.not_eq_false, ne_eq, Decidable.not_not, Int.not_lt, Int.not_le, not_true_eq_false, not_false_eq_true, bne_iff_ne, beq_iff_eq, bne_eq_false_iff_eq, beq_eq_false_iff_ne] at hb1259)
                  refine gw_off HF1260 (want_no HF1260 rfl rfl rfl rfl (by decide)) rfl (by decide) ?_
                  intro a1261 HF1262; clear HF1260
                  refine gw_off HF1262 (want_no HF1262 rfl rfl rfl rfl (by decide)) rfl (by decide) ?_
                  intro a1263 HF1264; clear HF1262
                  refine gw_off HF1264 (want_no HF1264 rfl rfl rfl rfl (by decide)) rfl (by decide) ?_
                  intro a1265 HF1266; clear HF1264
                  refine gw_off HF1266 (want_no HF1266 rfl rfl rfl rfl (by decide)) rfl (by decide) ?_
                  intro a1267 HF1268; clear HF1266
                  refine gw_off HF1268 (want_undef HF1268 rfl rfl rfl rfl) rfl (by decide) ?_
                  intro a1269 HF1270; clear HF1268
                  refine gw_off HF1270 (want_undef HF1270 rfl rfl rfl rfl) rfl (by decide) ?_
                  intro a1271 HF1272; clear HF1270
                  refine gw_off HF1272 (want_undef HF1272 rfl rfl rfl rfl) rfl (by decide) ?_
                  intro a1273 HF1274; clear HF1272
                  refine gw_off HF1274 (want_undef HF1274 rfl rfl rfl rfl) rfl (by decide) ?_
                  intro a1275 HF1276; clear HF1274
                  refine gw_off HF1276 (want_undef HF1276 rfl rfl rfl rfl) rfl (by decide) ?_
                  intro a1277 HF1278; clear HF1276
                  refine gw_off HF1278 (want_no HF1278 rfl rfl rfl rfl (by decide)) rfl (by decide) ?_
                  intro a1279 HF1280; clear HF1278
                  refine gw_ev HF1280 (want_none rfl) rfl (by decide) (op_pick_t rfl (HF1280.ev rfl) (ev_c _ _)) ?_
                  intro a1281 HF1282; clear HF1280
                  refine gw_ev HF1282 (want_none rfl) rfl (by decide) (op_assign rfl (HF1282.ev rfl)) ?_
                  intro a1283 HF1284; clear HF1282
                  refine wpList_nil ?_
                  refine gw_nx (hK1248 _ _ ?_)
                  refine wp_ret ?_
                  refine gw_ret1 HF1284 rfl rfl ?_
                  exact ⟨rfl, HO1229.below⟩
                · skip
                  have HF1285 := HF1258.subst_ (d := 117) (b := false) rfl hb1259
                  clear HF1258
                  (try simp only [decide_eq_true_eq, decide_eq_false_iff_not, Bool.not_eq_true', Bool.not_eq_false', Bool.not_eq_true, Bool.not_eq_false, ne_eq, Decidable.not_not, Int.not_lt, Int.not_le, not_true_eq_false, not_false_eq_true, bne_iff_ne, beq_iff_eq, bne_eq_false_iff_eq, beq_eq_false_iff_ne] at hb1259)
                  refine gw_ev HF1285 (want_yes HF1285 rfl rfl rfl rfl) rfl (by decide) (op_move rfl (HF1285.ev rfl)) ?_
                  intro a1286 HF1287; clear HF1285
                  refine gw_ev HF1287 (want_yes HF1287 rfl rfl rfl rfl) rfl (by decide) (op_move rfl (HF1287.ev rfl)) ?_
                  intro a1288 HF1289; clear HF1287
                  refine gw_call HF1289 (want_yes HF1289 rfl rfl rfl rfl) rfl (by decide) (op_callL Try.func18 (by kernel_rfl) rfl rfl (ar_cons (HF1289.ev rfl) (ar_cons (HF1289.ev rfl) ar_nil))) (same_calls Al2 cal2 al2 Al3 cal3 al3 _ (Kd.R_reads' (HO1229.get 1 rfl)).2.2 (row_cap (HO1229.get 1 rfl)) (Kd.R_reads' (HO1229.get 0 rfl)).2.2 (row_cap (HO1229.get 0 rfl)) (by first | omega | (have := reach_len hrr2 hsum; omega))) ?_
                  rintro e1290 w1291 ⟨rfl, hb1292⟩
                  refine ⟨_, rfl, fun a1293 HF1294 => ?_⟩
                  have HO1295 := HO1229.after hb1292
                  clear HF1289 HO1229 hb1292
                  have HF1297 := HF1294.lit (b := true) (by rw [(fin_eq FA FB (by (first | omega | ((try simp only [List.length_append, List.length_take, List.length_drop, List.length_nil, List.length_cons, List.length_set] at *); omega)))).2]; simp)
                  clear HF1294
                  refine gw_ev HF1297 (want_yes HF1297 rfl rfl rfl rfl) rfl (by decide) (op_move rfl (HF1297.ev rfl)) ?_
                  intro a1298 HF1299; clear HF1297
                  refine gw_ev HF1299 (want_yes HF1299 rfl rfl rfl rfl) rfl (by decide) (op_move rfl (HF1299.ev rfl)) ?_
                  intro a1300 HF1301; clear HF1299
                  refine gw_call HF1301 (want_yes HF1301 rfl rfl rfl rfl) rfl (by decide) (op_callL Try.func26 (by kernel_rfl) rfl rfl (ar_cons (HF1301.ev rfl) ar_nil)) (GLine_.rest_calls l17 A18 c19 chs en wt at2 now2 last2 none 0 ([] : List Int) _ (HO1295.get 3 rfl) (by (first | omega | ((try simp only [List.length_append, List.length_take, List.length_drop, List.length_nil, List.length_cons, List.length_set] at *); omega))) (by (first | omega | ((try simp only [List.length_append, List.length_take, List.length_drop, List.length_nil, List.length_cons, List.length_set] at *); omega))) (by (first | omega | ((try simp only [List.length_append, List.length_take, List.length_drop, List.length_nil, List.length_cons, List.length_set] at *); omega)))) ?_
                  rintro e1302 w1303 ⟨rfl, hb1304⟩
                  refine ⟨_, rfl, fun a1305 HF1306 => ?_⟩
                  have HO1307 := HO1295.after hb1304
                  clear HF1301 HO1295 hb1304
                  refine gw_ev HF1306 (want_yes HF1306 rfl rfl rfl rfl) rfl (by decide) (op_move rfl (HF1306.ev rfl)) ?_
                  intro a1309 HF1310; clear HF1306
                  refine gw_call HF1310 (want_yes HF1310 rfl rfl rfl rfl) rfl (by decide) (op_callL Try.func26 (by kernel_rfl) rfl rfl (ar_cons (HF1310.ev rfl) ar_nil)) (GLine_.rest_calls l31 A32 c33 chs en wt ((nextL chs en wt at3 now3 last3 mo).at_) ((nextL chs en wt at3 now3 last3 mo).now) ((nextL chs en wt at3 now3 last3 mo).last) none 0 ([] : List Int) _ (HO1307.get 8 rfl) (by (first | omega | ((try simp only [List.length_append, List.length_take, List.length_drop, List.length_nil, List.length_cons, List.length_set] at *); omega))) (by (first | omega | ((try simp only [List.length_append, List.length_take, List.length_drop, List.length_nil, List.length_cons, List.length_set] at *); omega))) (by (first | omega | ((try simp only [List.length_append, List.length_take, List.length_drop, List.length_nil, List.length_cons, List.length_set] at *); omega)))) ?_
                  rintro e1311 w1312 ⟨rfl, hb1313⟩
                  refine ⟨_, rfl, fun a1314 HF1315 => ?_⟩
                  have HO1316 := HO1307.after hb1313
                  clear HF1310 HO1307 hb1313
                  refine gw_ev HF1315 (want_yes HF1315 rfl rfl rfl rfl) rfl (by decide) (op_eqi rfl (HF1315.ev rfl) (HF1315.ev rfl)) ?_
                  intro a1318 HF1319; clear HF1315
                  have HF1320 := HF1319.lit (b := true) (by rw [(fin_eq FA FB (by (first | omega | ((try simp only [List.length_append, List.length_take, List.length_drop, List.length_nil, List.length_cons, List.length_set] at *); omega)))).1]; simp)
                  clear HF1319
                  refine gw_ev HF1320 (want_yes HF1320 rfl rfl rfl rfl) rfl (by decide) (op_pick_t rfl (HF1320.ev rfl) (HF1320.ev rfl)) ?_
                  intro a1321 HF1322; clear HF1320
                  refine gw_ev HF1322 (want_none rfl) rfl (by decide) (op_pick_f rfl (HF1322.ev rfl) (HF1322.ev rfl)) ?_
                  intro a1323 HF1324; clear HF1322
                  refine gw_ev HF1324 (want_none rfl) rfl (by decide) (op_assign rfl (HF1324.ev rfl)) ?_
                  intro a1325 HF1326; clear HF1324
                  refine wpList_nil ?_
                  refine gw_nx (hK1248 _ _ ?_)
                  refine wp_ret ?_
                  refine gw_ret1 HF1326 rfl rfl ?_
                  exact ⟨rfl, HO1316.below⟩
              · skip
                have HF1327 := HF1245.subst_ (d := 109) (b := false) rfl hb1246
                clear HF1245
                (try simp only [decide_eq_true_eq, decide_eq_false_iff_not, Bool.not_eq_true', Bool.not_eq_false', Bool.not_eq_true, Bool.not_eq_false, ne_eq, Decidable.not_not, Int.not_lt, Int.not_le, not_true_eq_false, not_false_eq_true, bne_iff_ne, beq_iff_eq, bne_eq_false_iff_eq, beq_eq_false_iff_ne] at hb1246)
                have hat1 := congrArg NX.at_ (next_one hb1246).2.2
                refine wp_skip ?_
                refine gw_nx (hK1240 _ _ ?_)
                refine wp_region_lit ?_
                refine gw_ev HF1327 (want_none rfl) rfl (by decide) (op_move rfl (HF1327.ev rfl)) ?_
                intro a1328 HF1329; clear HF1327
                refine gw_ev HF1329 (want_none rfl) rfl (by decide) (op_move rfl (HF1329.ev rfl)) ?_
                intro a1330 HF1331; clear HF1329
                refine gw_append (Kd.int .u8) 0 HF1331 HO1229 (want_none rfl) rfl (by decide) rfl Try.underlying26 gwinfo5 rfl (by decide) (by decide) rfl (HF1331.ev rfl) (HF1331.ev rfl) (Kd.R_reads' (HO1229.get 7 rfl)).2.2 (fun _ _ h => h) HO1229.below.size (by (first | omega | ((try simp only [List.length_append, List.length_take, List.length_drop, List.length_nil, List.length_cons, List.length_set] at *); omega))) ?_
                intro A1332 c1333 S1334 a1335 w1336 HF1337 HO1338; clear HF1331 HO1229
                have HO1339 : Own w w1336 [Chunk.row (Kd.int .u8) 5 w.heap.size S1334 (.slice A1332 ((al3 ++ (nextL chs en wt at3 now3 last3 mo).b).length) c1333) (al3 ++ (nextL chs en wt at3 now3 last3 mo).b), Chunk.row (Kd.int .u8) 5 w.heap.size Sl2 (.slice Al2 al2.length cal2) al2, Chunk.row (Kd.int .u8) 5 w.heap.size (fun _ => False) (.slice none (([] : List Int).length) 0) ([] : List Int), Chunk.blk l17 (.cells #[.slice A18 chs.length c19, .int .i64 en, .int .i64 wt, .int .i64 at2, .int .i64 now2, .int .i64 last2, .slice none (([] : List Int).length) 0] 83 (0, 0)), Chunk.view k52 S20 A18 chs.length c19 chs, Chunk.row (Kd.int .u8) 5 w.heap.size (fun _ => False) (.slice none (([] : List Int).length) 0) ([] : List Int), Chunk.blk g2 (.cells #[.slice A0_0 chs.length c0_0, .int .i64 en, .int .i64 wt] 48 (0, 0)), Chunk.row (Kd.int .u8) 5 w.heap.size S1220 (.slice A1218 ((nextL chs en wt at3 now3 last3 mo).b.length) c1219) ((nextL chs en wt at3 now3 last3 mo).b), Chunk.blk l31 (.cells #[.slice A32 chs.length c33, .int .i64 en, .int .i64 wt, .int .i64 ((nextL chs en wt at3 now3 last3 mo).at_), .int .i64 ((nextL chs en wt at3 now3 last3 mo).now), .int .i64 ((nextL chs en wt at3 now3 last3 mo).last), .slice none (([] : List Int).length) 0] 83 (0, 0)), Chunk.view k52 S34 A32 chs.length c33 chs] := HO1338
                clear HO1338
                refine gw_ev HF1337 (want_none rfl) rfl (by decide) (op_assign rfl (HF1337.ev rfl)) ?_
                intro a1340 HF1341; clear HF1337
                refine wpList_nil ?_
                refine gw_blk ?_
                refine gw_nx (hK1212 _ _ ?_)
                refine wp_region_lit ?_
                refine gw_ev HF1341 (want_none rfl) rfl (by decide) (op_move rfl (HF1341.ev rfl)) ?_
                intro a1342 HF1343; clear HF1341
                refine gw_ev HF1343 (want_none rfl) rfl (by decide) (op_add rfl (HF1343.ev rfl) (ev_c _ _) (by (first | omega | ((try simp only [List.length_append, List.length_take, List.length_drop, List.length_nil, List.length_cons, List.length_set] at *); omega)))) ?_
                intro a1344 HF1345; clear HF1343
                refine gw_ev HF1345 (want_none rfl) rfl (by decide) (op_assign rfl (HF1345.ev rfl)) ?_
                intro a1346 HF1347; clear HF1345
                refine wpList_nil ?_
                refine gw_nx ⟨_, ?_, j3 + 1, (nextL chs en wt at3 now3 last3 mo).at_, (nextL chs en wt at3 now3 last3 mo).now, (nextL chs en wt at3 now3 last3 mo).last, al3 ++ (nextL chs en wt at3 now3 last3 mo).b, A1332, _, _, (HF1347.pick (t := 18) rfl (HF1347.pick (t := 17) rfl (HF1347.pick (t := 7) rfl (HF1347.pick (t := 8) rfl (HF1347.pick (t := 2) rfl (HF1347.pick (t := 5) rfl (HF1347.pick (t := 6) rfl HF1347.nil))))))), HO1339.sel [0, 1, 8, 9, 2, 3, 4, 5, 6] (by decide), ?_, ?_, ?_, ?_, rfl⟩
                · rw [hm1203]; (first | omega | ((try simp only [List.length_append, List.length_take, List.length_drop, List.length_nil, List.length_cons, List.length_set] at *); omega))
                · (first | omega | ((try simp only [List.length_append, List.length_take, List.length_drop, List.length_nil, List.length_cons, List.length_set] at *); omega))
                · exact hx2.1
                · exact hx2.2
                · exact hx1.1
            · skip
              have HF1348 := HF1209.subst_ (d := 99) (b := false) rfl hb1210
              clear HF1209
              (try simp only [decide_eq_true_eq, decide_eq_false_iff_not, Bool.not_eq_true', Bool.not_eq_false', Bool.not_eq_true, Bool.not_eq_false, ne_eq, Decidable.not_not, Int.not_lt, Int.not_le, not_true_eq_false, not_false_eq_true, bne_iff_ne, beq_iff_eq, bne_eq_false_iff_eq, beq_eq_false_iff_ne] at hb1210)
              have FB := fin_end hrr3 ha3 (by (first | omega | ((try simp only [List.length_append, List.length_take, List.length_drop, List.length_nil, List.length_cons, List.length_set] at *); omega)))
              refine wp_exit ?_
              refine gw_thx ?_
              refine gw_thx ?_
              refine gw_in ?_
              refine gw_nx (hK1193 _ _ ?_)
              refine gw_seq fun K1349 hK1349 => ?_
              refine wp_region_lit ?_
              refine gw_ev HF1348 (want_none rfl) rfl (by decide) (op_field (gwfld48_0 _ _) rfl (HF1348.ev rfl)) ?_
              intro a1350 HF1351; clear HF1348
              refine gw_ev HF1351 (want_none rfl) rfl (by decide) (op_load1 gwagg46 rfl (HF1351.ev rfl) (blk_at (HO1202.get 8 rfl) rfl)) ?_
              intro a1352 HF1353; clear HF1351
              refine gw_ev HF1353 (want_none rfl) rfl (by decide) (op_len Try.underlying46 rfl (HF1353.ev rfl)) ?_
              intro a1354 HF1355; clear HF1353
              refine gw_ev HF1355 (want_none rfl) rfl (by decide) (op_gtr rfl (HF1355.ev rfl) (ev_c _ _)) ?_
              intro a1356 HF1357; clear HF1355
              refine gw_ev HF1357 (want_none rfl) rfl (by decide) (op_move rfl (HF1357.ev rfl)) ?_
              intro a1358 HF1359; clear HF1357
              rcases Bool.eq_false_or_eq_true (decide (200 < (chs.length : Int))) with hb1360 | hb1360
              · skip
                have HF1361 := HF1359.subst_ (d := 117) (b := true) rfl hb1360
                clear HF1359
                (try simp only [decide_eq_true_eq, decide_eq_false_iff_not, Bool.not_eq_true', Bool.not_eq_false', Bool.not_eq_true, Bool.not_eq_false, ne_eq, Decidable.not_not, Int.not_lt, Int.not_le, not_true_eq_false, not_false_eq_true, bne_iff_ne, beq_iff_eq, bne_eq_false_iff_eq, beq_eq_false_iff_ne] at hb1360)
                refine gw_off HF1361 (want_no HF1361 rfl rfl rfl rfl (by decide)) rfl (by decide) ?_
                intro a1362 HF1363; clear HF1361
                refine gw_off HF1363 (want_no HF1363 rfl rfl rfl rfl (by decide)) rfl (by decide) ?_
                intro a1364 HF1365; clear HF1363
                refine gw_off HF1365 (want_no HF1365 rfl rfl rfl rfl (by decide)) rfl (by decide) ?_
                intro a1366 HF1367; clear HF1365
                refine gw_off HF1367 (want_no HF1367 rfl rfl rfl rfl (by decide)) rfl (by decide) ?_
                intro a1368 HF1369; clear HF1367
                refine gw_off HF1369 (want_undef HF1369 rfl rfl rfl rfl) rfl (by decide) ?_
                intro a1370 HF1371; clear HF1369
                refine gw_off HF1371 (want_undef HF1371 rfl rfl rfl rfl) rfl (by decide) ?_
                intro a1372 HF1373; clear HF1371
                refine gw_off HF1373 (want_undef HF1373 rfl rfl rfl rfl) rfl (by decide) ?_
                intro a1374 HF1375; clear HF1373
                refine gw_off HF1375 (want_undef HF1375 rfl rfl rfl rfl) rfl (by decide) ?_
                intro a1376 HF1377; clear HF1375
                refine gw_off HF1377 (want_undef HF1377 rfl rfl rfl rfl) rfl (by decide) ?_
                intro a1378 HF1379; clear HF1377
                refine gw_off HF1379 (want_no HF1379 rfl rfl rfl rfl (by decide)) rfl (by decide) ?_
                intro a1380 HF1381; clear HF1379
                refine gw_ev HF1381 (want_none rfl) rfl (by decide) (op_pick_t rfl (HF1381.ev rfl) (ev_c _ _)) ?_
                intro a1382 HF1383; clear HF1381
                refine gw_ev HF1383 (want_none rfl) rfl (by decide) (op_assign rfl (HF1383.ev rfl)) ?_
                intro a1384 HF1385; clear HF1383
                refine wpList_nil ?_
                refine gw_nx (hK1349 _ _ ?_)
                refine wp_ret ?_
                refine gw_ret1 HF1385 rfl rfl ?_
                exact ⟨rfl, HO1202.below⟩
              · skip
                have HF1386 := HF1359.subst_ (d := 117) (b := false) rfl hb1360
                clear HF1359
                (try simp only [decide_eq_true_eq, decide_eq_false_iff_not, Bool.not_eq_true', Bool.not_eq_false', Bool.not_eq_true, Bool.not_eq_false, ne_eq, Decidable.not_not, Int.not_lt, Int.not_le, not_true_eq_false, not_false_eq_true, bne_iff_ne, beq_iff_eq, bne_eq_false_iff_eq, beq_eq_false_iff_ne] at hb1360)
                refine gw_ev HF1386 (want_yes HF1386 rfl rfl rfl rfl) rfl (by decide) (op_move rfl (HF1386.ev rfl)) ?_
                intro a1387 HF1388; clear HF1386
                refine gw_ev HF1388 (want_yes HF1388 rfl rfl rfl rfl) rfl (by decide) (op_move rfl (HF1388.ev rfl)) ?_
                intro a1389 HF1390; clear HF1388
                refine gw_call HF1390 (want_yes HF1390 rfl rfl rfl rfl) rfl (by decide) (op_callL Try.func18 (by kernel_rfl) rfl rfl (ar_cons (HF1390.ev rfl) (ar_cons (HF1390.ev rfl) ar_nil))) (same_calls Al2 cal2 al2 Al3 cal3 al3 _ (Kd.R_reads' (HO1202.get 1 rfl)).2.2 (row_cap (HO1202.get 1 rfl)) (Kd.R_reads' (HO1202.get 0 rfl)).2.2 (row_cap (HO1202.get 0 rfl)) (by first | omega | (have := reach_len hrr2 hsum; omega))) ?_
                rintro e1391 w1392 ⟨rfl, hb1393⟩
                refine ⟨_, rfl, fun a1394 HF1395 => ?_⟩
                have HO1396 := HO1202.after hb1393
                clear HF1390 HO1202 hb1393
                have HF1398 := HF1395.lit (b := true) (by rw [(fin_eq FA FB (by (first | omega | ((try simp only [List.length_append, List.length_take, List.length_drop, List.length_nil, List.length_cons, List.length_set] at *); omega)))).2]; simp)
                clear HF1395
                refine gw_ev HF1398 (want_yes HF1398 rfl rfl rfl rfl) rfl (by decide) (op_move rfl (HF1398.ev rfl)) ?_
                intro a1399 HF1400; clear HF1398
                refine gw_ev HF1400 (want_yes HF1400 rfl rfl rfl rfl) rfl (by decide) (op_move rfl (HF1400.ev rfl)) ?_
                intro a1401 HF1402; clear HF1400
                refine gw_call HF1402 (want_yes HF1402 rfl rfl rfl rfl) rfl (by decide) (op_callL Try.func26 (by kernel_rfl) rfl rfl (ar_cons (HF1402.ev rfl) ar_nil)) (GLine_.rest_calls l17 A18 c19 chs en wt at2 now2 last2 none 0 ([] : List Int) _ (HO1396.get 5 rfl) (by (first | omega | ((try simp only [List.length_append, List.length_take, List.length_drop, List.length_nil, List.length_cons, List.length_set] at *); omega))) (by (first | omega | ((try simp only [List.length_append, List.length_take, List.length_drop, List.length_nil, List.length_cons, List.length_set] at *); omega))) (by (first | omega | ((try simp only [List.length_append, List.length_take, List.length_drop, List.length_nil, List.length_cons, List.length_set] at *); omega)))) ?_
                rintro e1403 w1404 ⟨rfl, hb1405⟩
                refine ⟨_, rfl, fun a1406 HF1407 => ?_⟩
                have HO1408 := HO1396.after hb1405
                clear HF1402 HO1396 hb1405
                refine gw_ev HF1407 (want_yes HF1407 rfl rfl rfl rfl) rfl (by decide) (op_move rfl (HF1407.ev rfl)) ?_
                intro a1410 HF1411; clear HF1407
                refine gw_call HF1411 (want_yes HF1411 rfl rfl rfl rfl) rfl (by decide) (op_callL Try.func26 (by kernel_rfl) rfl rfl (ar_cons (HF1411.ev rfl) ar_nil)) (GLine_.rest_calls l31 A32 c33 chs en wt at3 now3 last3 none 0 ([] : List Int) _ (HO1408.get 2 rfl) (by (first | omega | ((try simp only [List.length_append, List.length_take, List.length_drop, List.length_nil, List.length_cons, List.length_set] at *); omega))) (by (first | omega | ((try simp only [List.length_append, List.length_take, List.length_drop, List.length_nil, List.length_cons, List.length_set] at *); omega))) (by (first | omega | ((try simp only [List.length_append, List.length_take, List.length_drop, List.length_nil, List.length_cons, List.length_set] at *); omega)))) ?_
                rintro e1412 w1413 ⟨rfl, hb1414⟩
                refine ⟨_, rfl, fun a1415 HF1416 => ?_⟩
                have HO1417 := HO1408.after hb1414
                clear HF1411 HO1408 hb1414
                refine gw_ev HF1416 (want_yes HF1416 rfl rfl rfl rfl) rfl (by decide) (op_eqi rfl (HF1416.ev rfl) (HF1416.ev rfl)) ?_
                intro a1419 HF1420; clear HF1416
                have HF1421 := HF1420.lit (b := true) (by rw [(fin_eq FA FB (by (first | omega | ((try simp only [List.length_append, List.length_take, List.length_drop, List.length_nil, List.length_cons, List.length_set] at *); omega)))).1]; simp)
                clear HF1420
                refine gw_ev HF1421 (want_yes HF1421 rfl rfl rfl rfl) rfl (by decide) (op_pick_t rfl (HF1421.ev rfl) (HF1421.ev rfl)) ?_
                intro a1422 HF1423; clear HF1421
                refine gw_ev HF1423 (want_none rfl) rfl (by decide) (op_pick_f rfl (HF1423.ev rfl) (HF1423.ev rfl)) ?_
                intro a1424 HF1425; clear HF1423
                refine gw_ev HF1425 (want_none rfl) rfl (by decide) (op_assign rfl (HF1425.ev rfl)) ?_
                intro a1426 HF1427; clear HF1425
                refine wpList_nil ?_
                refine gw_nx (hK1349 _ _ ?_)
                refine wp_ret ?_
                refine gw_ret1 HF1427 rfl rfl ?_
                exact ⟨rfl, HO1417.below⟩
end GLineTime_
open Classical in
noncomputable def colloquylaw10_LineTime.f (l0_0 : List S52) (a0_1 : Int) (a0_2 : Int) (l1 : List Int) : Option Bool := if (l0_0.length ≤ 4398046511102) ∧ (∀ x ∈ l0_0, x.f1.length ≤ 140737488351232) ∧ ((l0_0.map (fun x => x.f1.length)).sum ≤ 1048576) ∧ (l1.length ≤ 9223372036854775807) then some true else none
theorem colloquylaw10_LineTime.calls (A0_0 : Option Addr) (c0_0 : Nat) (l0_0 : List S52) (a0_1 : Int) (a0_2 : Int) (A1 : Option Addr) (c1 : Nat) (l1 : List Int) (r : Bool) (w : World) (hr0_0 : Kd.C k52 w A0_0 l0_0.length l0_0) (hc0_0 : l0_0.length ≤ c0_0) (hr1 : Kd.C (Kd.int .i64) w A1 l1.length l1) (hc1 : l1.length ≤ c1) (h : colloquylaw10_LineTime.f l0_0 a0_1 a0_2 l1 = some r) :
    Calls Try.prog 7 #[(.agg #[.slice A0_0 l0_0.length c0_0, .int .i64 a0_1, .int .i64 a0_2]), (.slice A1 l1.length c1)] w fun e w' => e = .returned (.bool r) ∧ Below w.heap.size w w' := by
  unfold colloquylaw10_LineTime.f at h
  split at h
  · cases h; rename_i hh; exact GLineTime_.LineTime_calls A0_0 c0_0 l0_0 a0_1 a0_2 A1 c1 l1 w hr0_0 hc0_0 hr1 hc1 hh.1 hh.2.1 hh.2.2.1 hh.2.2.2
  · cases h
end Go.Proofs.Ytbnoedefkbnpjaa.PA
