/- LineSends. Printed by a program of this session; Lean checks it. -/
import Derived.Test.YtbnoedefkbnpjaaGLineAlive
namespace Go.Proofs.Ytbnoedefkbnpjaa.PA
open Go.RowKit Go.Proofs.YtbnoedefkbnpjaaW.PrintWords Go.Proofs.YtbnoedefkbnpjaaW.PrintLast Go.Proofs.YtbnoedefkbnpjaaW.PrintMore
set_option linter.unusedVariables false
set_option linter.unusedSimpArgs false
namespace GLineSends_
theorem gwagg26 : ∀ w, (isAgg 26).run Try.prog w = .ok false w := fun _ => by kernel_rfl
theorem gwagg48 : ∀ w, (isAgg 48).run Try.prog w = .ok true w := fun _ => by kernel_rfl
theorem gwinfo5 : (Try.prog.info? 5).map (fun i => (i.zero, i.size, i.bytes)) = some (some (.int .u8 0), 1, 1) := by kernel_rfl
theorem gwsiz26 : ∀ w, (sizeOf 26).run Try.prog w = .ok 1 w := fun _ => by kernel_rfl
theorem gwsiz48 : ∀ w, (sizeOf 48).run Try.prog w = .ok 3 w := fun _ => by kernel_rfl
set_option maxHeartbeats 4000000 in
set_option maxRecDepth 100000 in
theorem LineSends_calls (A0_0 : Option Addr) (c0_0 : Nat) (chs : List S52) (en wt : Int) (A1 : Option Addr) (c1 : Nat) (sends : List (List Int)) (w : World) (hr0 : Kd.C k52 w A0_0 chs.length chs) (hc0 : chs.length ≤ c0_0) (hr1 : Kd.C (Kd.slice 5 (Kd.int .u8)) w A1 sends.length sends) (hc1 : sends.length ≤ c1) (hlen : chs.length ≤ 4398046511102) (hz : ∀ x ∈ chs, x.f1.length ≤ 140737488351232) (hs1 : sends.length ≤ 9223372036854775807) :
    Calls Try.prog 8 #[.agg #[.slice A0_0 chs.length c0_0, .int .i64 en, .int .i64 wt], .slice A1 sends.length c1] w fun e w' => e = .returned (.bool true) ∧ Below w.heap.size w w' := by
  refine gw_start (N := 88) (vs := [.agg #[.slice A0_0 chs.length c0_0, .int .i64 en, .int .i64 wt], .slice A1 sends.length c1]) Try.func8 rfl rfl (by simp) fun a HF HO => ?_
  replace HO : Own w w [] := HO
  refine gw_seq fun K1 hK1 => ?_
  refine wp_region_lit ?_
  refine gw_new HF HO (want_none rfl) rfl (by decide) (op_box rfl (HF.ev rfl)) ?_
  intro g2 a3 w4 HF5 HO6; clear HF HO
  have HO7 : Own w w4 [Chunk.blk g2 (.cells #[.slice A0_0 chs.length c0_0, .int .i64 en, .int .i64 wt] 48 (0, 0))] := HO6
  clear HO6
  refine gw_ev HF5 (want_none rfl) rfl (by decide) (op_assign rfl (ev_c _ _)) ?_
  intro a8 HF9; clear HF5
  refine wpList_nil ?_
  refine gw_nx (hK1 _ _ ?_)
  refine gw_seq fun K10 hK10 => ?_
  refine gx_draw (M := [Chunk.blk g2 (.cells #[.slice A0_0 chs.length c0_0, .int .i64 en, .int .i64 wt] 48 (0, 0))]) (fun j_ => false) HO7 (by kernel_rfl) fun w11 HO12 => ?_
  clear HO7
  refine gx_take 0 rfl (by kernel_rfl) HF9 (by exact HO12.sel [0] (by decide)) (want_none rfl) rfl (by decide) (fun wq HO => (op_loadn gwagg48 gwsiz48 rfl (HF9.ev rfl) (HO.get 0 rfl) rfl rfl)) ?_
  intro a13 HF14; clear HF9
  refine gx_take 2 rfl (by kernel_rfl) HF14 (by exact HO12.sel [0] (by decide)) (want_none rfl) rfl (by decide) (fun wq HO => (op_loadn gwagg48 gwsiz48 rfl (HF14.ev rfl) (HO.get 0 rfl) rfl rfl)) ?_
  intro a15 HF16; clear HF14
  refine gx_step 1 rfl (by kernel_rfl) ?_
  refine gw_call HF16 (want_none rfl) rfl (by decide) (op_callL Try.func22 (by kernel_rfl) rfl rfl (ar_cons (HF16.ev rfl) ar_nil)) (GLine_.open_calls w.heap.size A0_0 c0_0 chs en wt _ (Kd.C_below hr0 HO12.below) hc0 (by (first | omega | ((try simp only [List.length_append, List.length_take, List.length_drop, List.length_nil, List.length_cons, List.length_set] at *); omega))) hz) ?_
  rintro e23 w24 ⟨l17, A18, c19, S20, rfl, hb25⟩
  refine ⟨_, rfl, fun a26 HF27 => ?_⟩
  have HO28 := HO12.fresh hb25
  clear HF16 HO12 hb25
  have HO30 : Own w w24 [Chunk.blk l17 (.cells #[.slice A18 chs.length c19, .int .i64 en, .int .i64 wt, .int .i64 0, .int .i64 0, .int .i64 0, .slice none (([] : List Int).length) 0] 83 (0, 0)), Chunk.view k52 S20 A18 chs.length c19 chs, Chunk.row (Kd.int .u8) 5 w.heap.size (fun _ => False) (.slice none (([] : List Int).length) 0) ([] : List Int), Chunk.blk g2 (.cells #[.slice A0_0 chs.length c0_0, .int .i64 en, .int .i64 wt] 48 (0, 0))] := HO28
  clear HO28
  refine gx_on (i := 1) (B := (fun j_ => false)) (M := [Chunk.blk g2 (.cells #[.slice A0_0 chs.length c0_0, .int .i64 en, .int .i64 wt] 48 (0, 0))]) (fun _ => (by exact HO30.sel [3] (by decide))) ?_
  refine gx_step 3 rfl (by kernel_rfl) ?_
  refine gw_call HF27 (want_none rfl) rfl (by decide) (op_callL Try.func22 (by kernel_rfl) rfl rfl (ar_cons (HF27.ev rfl) ar_nil)) (GLine_.open_calls w.heap.size A0_0 c0_0 chs en wt _ (Kd.C_below hr0 HO30.below) hc0 (by (first | omega | ((try simp only [List.length_append, List.length_take, List.length_drop, List.length_nil, List.length_cons, List.length_set] at *); omega))) hz) ?_
  rintro e37 w38 ⟨l31, A32, c33, S34, rfl, hb39⟩
  refine ⟨_, rfl, fun a40 HF41 => ?_⟩
  have HO42 := HO30.fresh hb39
  clear HF27 HO30 hb39
  have HO44 : Own w w38 [Chunk.blk l31 (.cells #[.slice A32 chs.length c33, .int .i64 en, .int .i64 wt, .int .i64 0, .int .i64 0, .int .i64 0, .slice none (([] : List Int).length) 0] 83 (0, 0)), Chunk.view k52 S34 A32 chs.length c33 chs, Chunk.row (Kd.int .u8) 5 w.heap.size (fun _ => False) (.slice none (([] : List Int).length) 0) ([] : List Int), Chunk.blk l17 (.cells #[.slice A18 chs.length c19, .int .i64 en, .int .i64 wt, .int .i64 0, .int .i64 0, .int .i64 0, .slice none (([] : List Int).length) 0] 83 (0, 0)), Chunk.view k52 S20 A18 chs.length c19 chs, Chunk.row (Kd.int .u8) 5 w.heap.size (fun _ => False) (.slice none (([] : List Int).length) 0) ([] : List Int), Chunk.blk g2 (.cells #[.slice A0_0 chs.length c0_0, .int .i64 en, .int .i64 wt] 48 (0, 0))] := HO42
  clear HO42
  refine gx_on (i := 3) (B := (fun j_ => false)) (M := [Chunk.blk g2 (.cells #[.slice A0_0 chs.length c0_0, .int .i64 en, .int .i64 wt] 48 (0, 0))]) (fun _ => (by exact HO44.sel [6] (by decide))) ?_
  refine gx_take 4 rfl (by kernel_rfl) HF41 (by exact HO44.sel [6] (by decide)) (want_none rfl) rfl (by decide) (fun wq HO => (op_assign rfl (HF41.ev rfl))) ?_
  intro a45 HF46; clear HF41
  refine gx_take 5 rfl (by kernel_rfl) HF46 (by exact HO44.sel [6] (by decide)) (want_none rfl) rfl (by decide) (fun wq HO => (op_assign rfl (HF46.ev rfl))) ?_
  intro a47 HF48; clear HF46
  refine gx_done (by kernel_rfl) ?_
  refine gw_nx (hK10 _ _ ?_)
  refine gw_seq fun K49 hK49 => ?_
  refine gw_seq fun K50 hK50 => ?_
  refine wp_region_lit ?_
  refine gw_ev HF48 (want_none rfl) rfl (by decide) (op_move rfl (HF48.ev rfl)) ?_
  intro a51 HF52; clear HF48
  refine gw_ev HF52 (want_none rfl) rfl (by decide) (op_eqp_nil Try.underlying49 rfl (HF52.ev rfl)) ?_
  intro a53 HF54; clear HF52
  refine gw_ev HF54 (want_none rfl) rfl (by decide) (op_move rfl (HF54.ev rfl)) ?_
  intro a55 HF56; clear HF54
  refine gw_ev HF56 (want_yes HF56 rfl rfl rfl rfl) rfl (by decide) (op_move rfl (HF56.ev rfl)) ?_
  intro a57 HF58; clear HF56
  refine gw_ev HF58 (want_yes HF58 rfl rfl rfl rfl) rfl (by decide) (op_eqp_nil Try.underlying49 rfl (HF58.ev rfl)) ?_
  intro a59 HF60; clear HF58
  refine gw_ev HF60 (want_none rfl) rfl (by decide) (op_pick_f rfl (HF60.ev rfl) (HF60.ev rfl)) ?_
  intro a61 HF62; clear HF60
  refine gw_ev HF62 (want_none rfl) rfl (by decide) (op_move rfl (HF62.ev rfl)) ?_
  intro a63 HF64; clear HF62
  refine gw_call HF64 (want_yes HF64 rfl rfl rfl rfl) rfl (by decide) (op_callL Try.func23 (by kernel_rfl) rfl rfl ar_nil) (GLineAlive_.alive_calls _) ?_
  rintro e65 w66 ⟨rfl, hb67⟩
  refine ⟨_, rfl, fun a68 HF69 => ?_⟩
  have HO70 := HO44.after hb67
  clear HF64 HO44 hb67
  refine gw_ev HF69 (want_yes HF69 rfl rfl rfl rfl) rfl (by decide) (op_not rfl (HF69.ev rfl)) ?_
  intro a72 HF73; clear HF69
  refine gw_ev HF73 (want_none rfl) rfl (by decide) (op_pick_f rfl (HF73.ev rfl) (HF73.ev rfl)) ?_
  intro a74 HF75; clear HF73
  refine wpList_nil ?_
  refine gw_nx (hK50 _ _ ?_)
  refine gw_cond HF75 rfl (fun hb76 => ?_) (fun hb76 => ?_)
  skip
  · cases hb76
  refine wp_skip ?_
  refine gw_nx (hK49 _ _ ?_)
  refine gw_seq fun K77 hK77 => ?_
  refine wp_region_lit ?_
  refine gw_lit (enc := Value.int .u8) (fun _ => rfl) (xs := ([] : List Int)) (e := 5) HF75 HO70 (want_none rfl) rfl (by decide) (op_bslice (by kernel_rfl) rfl pt_nil) (by simp) ?_
  intro A78 S79 a80 w81 HF82 HO83; clear HF75 HO70
  have HO84 : Own w w81 [Chunk.row (Kd.int .u8) 5 w.heap.size S79 (.slice A78 ((([] : List Int)).length) ((([] : List Int)).length)) ([] : List Int), Chunk.blk l31 (.cells #[.slice A32 chs.length c33, .int .i64 en, .int .i64 wt, .int .i64 0, .int .i64 0, .int .i64 0, .slice none (([] : List Int).length) 0] 83 (0, 0)), Chunk.view k52 S34 A32 chs.length c33 chs, Chunk.row (Kd.int .u8) 5 w.heap.size (fun _ => False) (.slice none (([] : List Int).length) 0) ([] : List Int), Chunk.blk l17 (.cells #[.slice A18 chs.length c19, .int .i64 en, .int .i64 wt, .int .i64 0, .int .i64 0, .int .i64 0, .slice none (([] : List Int).length) 0] 83 (0, 0)), Chunk.view k52 S20 A18 chs.length c19 chs, Chunk.row (Kd.int .u8) 5 w.heap.size (fun _ => False) (.slice none (([] : List Int).length) 0) ([] : List Int), Chunk.blk g2 (.cells #[.slice A0_0 chs.length c0_0, .int .i64 en, .int .i64 wt] 48 (0, 0))] := HO83
  clear HO83
  refine gw_ev HF82 (want_none rfl) rfl (by decide) (op_assign rfl (HF82.ev rfl)) ?_
  intro a85 HF86; clear HF82
  refine wpList_nil ?_
  refine gw_nx (hK77 _ _ ?_)
  refine gw_seq fun K87 hK87 => ?_
  refine gw_seq fun K88 hK88 => ?_
  refine wp_region_lit ?_
  refine gw_ev HF86 (want_none rfl) rfl (by decide) (op_move rfl (HF86.ev rfl)) ?_
  intro a89 HF90; clear HF86
  refine gw_ev HF90 (want_none rfl) rfl (by decide) (op_len Try.underlying42 rfl (HF90.ev rfl)) ?_
  intro a91 HF92; clear HF90
  refine gw_ev HF92 (want_none rfl) rfl (by decide) (op_move rfl (ev_c _ _)) ?_
  intro a93 HF94; clear HF92
  refine wpList_nil ?_
  refine gw_nx (hK88 _ _ ?_)
  refine wp_block ?_
  refine gw_loop (fun m_ a_ w_ => ∃ (i : Int) (at_ : Int) (now : Int) (last : Int) (al : List Int) (Al : Option Addr) (cal : Nat) (Sl : Nat → Prop) (Az : Option Addr) (caz : Nat) (Sz : Nat → Prop), Fr 88 a_ [(31, .int .i64 i), (7, .slice Al al.length cal), (5, .pointer (some ⟨l17, 0, none⟩)), (6, .pointer (some ⟨l31, 0, none⟩)), (29, .slice A1 sends.length c1), (30, .int .i64 (sends.length : Int))] ∧ Own w w_ [Chunk.row (Kd.int .u8) 5 w.heap.size Sl (.slice Al al.length cal) al, Chunk.blk l31 (.cells #[.slice A32 chs.length c33, .int .i64 en, .int .i64 wt, .int .i64 at_, .int .i64 now, .int .i64 last, .slice none (([] : List Int).length) 0] 83 (0, 0)), Chunk.view k52 S34 A32 chs.length c33 chs, Chunk.row (Kd.int .u8) 5 w.heap.size (fun _ => False) (.slice none (([] : List Int).length) 0) ([] : List Int), Chunk.blk l17 (.cells #[.slice A18 chs.length c19, .int .i64 en, .int .i64 wt, .int .i64 at_, .int .i64 now, .int .i64 last, .slice Az al.length caz] 83 (0, 0)), Chunk.view k52 S20 A18 chs.length c19 chs, Chunk.row (Kd.int .u8) 5 w.heap.size Sz (.slice Az al.length caz) al, Chunk.blk g2 (.cells #[.slice A0_0 chs.length c0_0, .int .i64 en, .int .i64 wt] 48 (0, 0))] ∧ (0 ≤ i ∧ i ≤ sends.length ∧ i ≤ 50) ∧ (0 ≤ at_ ∧ at_ ≤ chs.length) ∧ (0 ≤ last ∧ last ≤ 1000000 * at_) ∧ ((al.length : Int) ≤ 1000 * i) ∧ m_ = (sends.length - i.toNat)) ((sends.length - (0 : Int).toNat)) ?_ ?_
  · refine ⟨0, 0, 0, 0, [], A78, _, _, none, _, _, (HF94.pick (t := 31) rfl (HF94.pick (t := 7) rfl (HF94.pick (t := 5) rfl (HF94.pick (t := 6) rfl (HF94.pick (t := 29) rfl (HF94.pick (t := 30) rfl HF94.nil)))))), HO84.sel [0, 1, 2, 3, 4, 5, 6, 7] (by decide), ?_, ?_, ?_, ?_, rfl⟩
    · (first | omega | ((try simp only [List.length_append, List.length_take, List.length_drop, List.length_nil, List.length_cons, List.length_set] at *); omega))
    · (first | omega | ((try simp only [List.length_append, List.length_take, List.length_drop, List.length_nil, List.length_cons, List.length_set] at *); omega))
    · (first | omega | ((try simp only [List.length_append, List.length_take, List.length_drop, List.length_nil, List.length_cons, List.length_set] at *); omega))
    · simp
  · rintro m96 a97 w98 ⟨i, at_, now, last, al, Al, cal, Sl, Az, caz, Sz, HF99, HO100, hi, ha, hl, hal, hm101⟩
    refine gw_seq fun K102 hK102 => ?_
    refine wp_region_lit ?_
    refine gw_ev HF99 (want_none rfl) rfl (by decide) (op_lss rfl (HF99.ev rfl) (HF99.ev rfl)) ?_
    intro a103 HF104; clear HF99
    refine wpList_nil ?_
    refine gw_nx (hK102 _ _ ?_)
    refine gw_seq fun K105 hK105 => ?_
    refine gw_cond HF104 rfl (fun hb106 => ?_) (fun hb106 => ?_)
    · skip
      have HF107 := HF104.subst_ (d := 32) (b := true) rfl hb106
      clear HF104
      (try simp only [decide_eq_true_eq, decide_eq_false_iff_not, Bool.not_eq_true', Bool.not_eq_false', Bool.not_eq_true, Bool.not_eq_false, ne_eq, Decidable.not_not, Int.not_lt, Int.not_le, not_true_eq_false, not_false_eq_true, bne_iff_ne, beq_iff_eq, bne_eq_false_iff_eq, beq_eq_false_iff_ne] at hb106)
      refine wp_skip ?_
      refine gw_nx (hK105 _ _ ?_)
      refine gw_seq fun K108 hK108 => ?_
      refine wp_block ?_
      refine gw_seq fun K109 hK109 => ?_
      refine wp_region_lit ?_
      refine gw_ev HF107 (want_none rfl) rfl (by decide) (op_move rfl (HF107.ev rfl)) ?_
      intro a110 HF111; clear HF107
      obtain ⟨ad112, cs115, hA113, hl116, hK117, hc114⟩ := Kd.C_get hr1 ([] : List Int) i (by (first | omega | ((try simp only [List.length_append, List.length_take, List.length_drop, List.length_nil, List.length_cons, List.length_set] at *); omega))) (by (first | omega | ((try simp only [List.length_append, List.length_take, List.length_drop, List.length_nil, List.length_cons, List.length_set] at *); omega)))
      obtain ⟨A118, c119, rfl, hl120, hC121⟩ := id hK117
      clear hl116
      refine gw_ev HF111 (want_none rfl) rfl (by decide) (op_index Try.underlying42 gwsiz26 rfl (HF111.ev rfl) (HF111.ev rfl) hA113 (⟨by (first | omega | ((try simp only [List.length_append, List.length_take, List.length_drop, List.length_nil, List.length_cons, List.length_set] at *); omega)), by (first | omega | ((try simp only [List.length_append, List.length_take, List.length_drop, List.length_nil, List.length_cons, List.length_set] at *); omega))⟩)) ?_
      intro a122 HF123; clear HF111
      refine gw_ev HF123 (want_none rfl) rfl (by decide) (op_load1 gwagg26 rfl (HF123.ev rfl) (HO100.cell0 (at0 hc114))) ?_
      intro a124 HF125; clear HF123
      refine gw_ev HF125 (want_none rfl) rfl (by decide) (op_assign rfl (HF125.ev rfl)) ?_
      intro a126 HF127; clear HF125
      refine gw_ev HF127 (want_none rfl) rfl (by decide) (op_assign rfl (HF127.ev rfl)) ?_
      intro a128 HF129; clear HF127
      refine wpList_nil ?_
      refine gw_nx (hK109 _ _ ?_)
      refine gw_seq fun K130 hK130 => ?_
      refine gw_seq fun K131 hK131 => ?_
      refine wp_region_lit ?_
      refine gw_ev HF129 (want_none rfl) rfl (by decide) (op_move rfl (HF129.ev rfl)) ?_
      intro a132 HF133; clear HF129
      refine gw_ev HF133 (want_none rfl) rfl (by decide) (op_geq rfl (HF133.ev rfl) (ev_c _ _)) ?_
      intro a134 HF135; clear HF133
      refine gw_ev HF135 (want_none rfl) rfl (by decide) (op_move rfl (HF135.ev rfl)) ?_
      intro a136 HF137; clear HF135
      rcases Bool.eq_false_or_eq_true (decide (50 ≤ i)) with hb138 | hb138
      · skip
        have HF139 := HF137.subst_ (d := 38) (b := true) rfl hb138
        clear HF137
        (try simp only [decide_eq_true_eq, decide_eq_false_iff_not, Bool.not_eq_true', Bool.not_eq_false', Bool.not_eq_true, Bool.not_eq_false, ne_eq, Decidable.not_not, Int.not_lt, Int.not_le, not_true_eq_false, not_false_eq_true, bne_iff_ne, beq_iff_eq, bne_eq_false_iff_eq, beq_eq_false_iff_ne] at hb138)
        refine gw_off HF139 (want_no HF139 rfl rfl rfl rfl (by decide)) rfl (by decide) ?_
        intro a140 HF141; clear HF139
        refine gw_off HF141 (want_no HF141 rfl rfl rfl rfl (by decide)) rfl (by decide) ?_
        intro a142 HF143; clear HF141
        refine gw_off HF143 (want_no HF143 rfl rfl rfl rfl (by decide)) rfl (by decide) ?_
        intro a144 HF145; clear HF143
        refine gw_ev HF145 (want_none rfl) rfl (by decide) (op_pick_t rfl (HF145.ev rfl) (ev_c _ _)) ?_
        intro a146 HF147; clear HF145
        refine wpList_nil ?_
        refine gw_nx (hK131 _ _ ?_)
        refine gw_cond HF147 rfl (fun hb148 => ?_) (fun hb148 => ?_)
        rotate_left
        · cases hb148
        refine wp_exit ?_
        refine gw_thx ?_
        refine gw_out (by decide) ?_
        refine gw_thx ?_
        refine gw_thx ?_
        refine gw_in ?_
        refine gw_nx (hK87 _ _ ?_)
        refine gw_seq fun K149 hK149 => ?_
        refine wp_region_lit ?_
        refine gw_ev HF147 (want_none rfl) rfl (by decide) (op_move rfl (HF147.ev rfl)) ?_
        intro a150 HF151; clear HF147
        refine gw_call HF151 (want_none rfl) rfl (by decide) (op_callL Try.func28 (by kernel_rfl) rfl rfl (ar_cons (HF151.ev rfl) ar_nil)) (GLine_.sent_calls l17 A18 c19 chs en wt at_ now last Az caz al _ (HO100.get 4 rfl) (Kd.R_reads' (HO100.get 6 rfl)).2.2 (row_cap (HO100.get 6 rfl)) (by (first | omega | ((try simp only [List.length_append, List.length_take, List.length_drop, List.length_nil, List.length_cons, List.length_set] at *); omega)))) ?_
        rintro e155 w156 ⟨A152, c153, S154, rfl, hb157⟩
        refine ⟨_, rfl, fun a158 HF159 => ?_⟩
        have HO160 := HO100.fresh hb157
        have hbel161 := HO100.below
        clear HF151 HO100 hb157
        have HO162 := HO160.lowrow 0 rfl (base' := w.heap.size) (Below.size hbel161)
        have HO163 : Own w w156 [Chunk.row (Kd.int .u8) 5 w.heap.size S154 (.slice A152 al.length c153) al, Chunk.row (Kd.int .u8) 5 w.heap.size Sl (.slice Al al.length cal) al, Chunk.blk l31 (.cells #[.slice A32 chs.length c33, .int .i64 en, .int .i64 wt, .int .i64 at_, .int .i64 now, .int .i64 last, .slice none (([] : List Int).length) 0] 83 (0, 0)), Chunk.view k52 S34 A32 chs.length c33 chs, Chunk.row (Kd.int .u8) 5 w.heap.size (fun _ => False) (.slice none (([] : List Int).length) 0) ([] : List Int), Chunk.blk l17 (.cells #[.slice A18 chs.length c19, .int .i64 en, .int .i64 wt, .int .i64 at_, .int .i64 now, .int .i64 last, .slice Az al.length caz] 83 (0, 0)), Chunk.view k52 S20 A18 chs.length c19 chs, Chunk.row (Kd.int .u8) 5 w.heap.size Sz (.slice Az al.length caz) al, Chunk.blk g2 (.cells #[.slice A0_0 chs.length c0_0, .int .i64 en, .int .i64 wt] 48 (0, 0))] := HO162
        clear HO162
        refine gw_ev HF159 (want_none rfl) rfl (by decide) (op_move rfl (HF159.ev rfl)) ?_
        intro a164 HF165; clear HF159
        refine gw_call HF165 (want_none rfl) rfl (by decide) (op_callL Try.func18 (by kernel_rfl) rfl rfl (ar_cons (HF165.ev rfl) (ar_cons (HF165.ev rfl) ar_nil))) (same_calls A152 c153 al Al cal al _ (Kd.R_reads' (HO163.get 0 rfl)).2.2 (row_cap (HO163.get 0 rfl)) (Kd.R_reads' (HO163.get 1 rfl)).2.2 (row_cap (HO163.get 1 rfl)) (by first | omega | (have := next_bl chs en wt at_ now last i ha.1 hz; omega))) ?_
        rintro e166 w167 ⟨rfl, hb168⟩
        refine ⟨_, rfl, fun a169 HF170 => ?_⟩
        have HO171 := HO163.after hb168
        clear HF165 HO163 hb168
        have HF173 := HF170.lit (b := true) (by simp)
        clear HF170
        refine gw_ev HF173 (want_none rfl) rfl (by decide) (op_move rfl (HF173.ev rfl)) ?_
        intro a174 HF175; clear HF173
        refine gw_ev HF175 (want_yes HF175 rfl rfl rfl rfl) rfl (by decide) (op_move rfl (HF175.ev rfl)) ?_
        intro a176 HF177; clear HF175
        refine gw_call HF177 (want_yes HF177 rfl rfl rfl rfl) rfl (by decide) (op_callL Try.func28 (by kernel_rfl) rfl rfl (ar_cons (HF177.ev rfl) ar_nil)) (GLine_.sent_calls l31 A32 c33 chs en wt at_ now last none 0 ([] : List Int) _ (HO171.get 2 rfl) (Kd.R_reads' (HO171.get 4 rfl)).2.2 (row_cap (HO171.get 4 rfl)) (by (first | omega | ((try simp only [List.length_append, List.length_take, List.length_drop, List.length_nil, List.length_cons, List.length_set] at *); omega)))) ?_
        rintro e181 w182 ⟨A178, c179, S180, rfl, hb183⟩
        refine ⟨_, rfl, fun a184 HF185 => ?_⟩
        have HO186 := HO171.fresh hb183
        have hbel187 := HO171.below
        clear HF177 HO171 hb183
        have HO188 := HO186.lowrow 0 rfl (base' := w.heap.size) (Below.size hbel187)
        have HO189 : Own w w182 [Chunk.row (Kd.int .u8) 5 w.heap.size S180 (.slice A178 (([] : List Int).length) c179) ([] : List Int), Chunk.row (Kd.int .u8) 5 w.heap.size S154 (.slice A152 al.length c153) al, Chunk.row (Kd.int .u8) 5 w.heap.size Sl (.slice Al al.length cal) al, Chunk.blk l31 (.cells #[.slice A32 chs.length c33, .int .i64 en, .int .i64 wt, .int .i64 at_, .int .i64 now, .int .i64 last, .slice none (([] : List Int).length) 0] 83 (0, 0)), Chunk.view k52 S34 A32 chs.length c33 chs, Chunk.row (Kd.int .u8) 5 w.heap.size (fun _ => False) (.slice none (([] : List Int).length) 0) ([] : List Int), Chunk.blk l17 (.cells #[.slice A18 chs.length c19, .int .i64 en, .int .i64 wt, .int .i64 at_, .int .i64 now, .int .i64 last, .slice Az al.length caz] 83 (0, 0)), Chunk.view k52 S20 A18 chs.length c19 chs, Chunk.row (Kd.int .u8) 5 w.heap.size Sz (.slice Az al.length caz) al, Chunk.blk g2 (.cells #[.slice A0_0 chs.length c0_0, .int .i64 en, .int .i64 wt] 48 (0, 0))] := HO188
        clear HO188
        refine gw_ev HF185 (want_yes HF185 rfl rfl rfl rfl) rfl (by decide) (op_len Try.underlying26 rfl (HF185.ev rfl)) ?_
        intro a190 HF191; clear HF185
        refine gw_ev HF191 (want_yes HF191 rfl rfl rfl rfl) rfl (by decide) (op_eqi rfl (HF191.ev rfl) (ev_c _ _)) ?_
        intro a192 HF193; clear HF191
        have HF194 := HF193.lit (b := true) (by simp)
        clear HF193
        refine gw_ev HF194 (want_none rfl) rfl (by decide) (op_pick_t rfl (HF194.ev rfl) (HF194.ev rfl)) ?_
        intro a195 HF196; clear HF194
        refine gw_ev HF196 (want_none rfl) rfl (by decide) (op_assign rfl (HF196.ev rfl)) ?_
        intro a197 HF198; clear HF196
        refine wpList_nil ?_
        refine gw_nx (hK149 _ _ ?_)
        refine wp_ret ?_
        refine gw_ret1 HF198 rfl rfl ?_
        exact ⟨rfl, HO189.below⟩
      · skip
        have HF199 := HF137.subst_ (d := 38) (b := false) rfl hb138
        clear HF137
        (try simp only [decide_eq_true_eq, decide_eq_false_iff_not, Bool.not_eq_true', Bool.not_eq_false', Bool.not_eq_true, Bool.not_eq_false, ne_eq, Decidable.not_not, Int.not_lt, Int.not_le, not_true_eq_false, not_false_eq_true, bne_iff_ne, beq_iff_eq, bne_eq_false_iff_eq, beq_eq_false_iff_ne] at hb138)
        refine gw_ev HF199 (want_yes HF199 rfl rfl rfl rfl) rfl (by decide) (op_move rfl (HF199.ev rfl)) ?_
        intro a200 HF201; clear HF199
        refine gw_ev HF201 (want_yes HF201 rfl rfl rfl rfl) rfl (by decide) (op_len Try.underlying26 rfl (HF201.ev rfl)) ?_
        intro a202 HF203; clear HF201
        refine gw_ev HF203 (want_yes HF203 rfl rfl rfl rfl) rfl (by decide) (op_gtr rfl (HF203.ev rfl) (ev_c _ _)) ?_
        intro a204 HF205; clear HF203
        refine gw_ev HF205 (want_none rfl) rfl (by decide) (op_pick_f rfl (HF205.ev rfl) (HF205.ev rfl)) ?_
        intro a206 HF207; clear HF205
        refine wpList_nil ?_
        refine gw_nx (hK131 _ _ ?_)
        refine gw_cond HF207 rfl (fun hb208 => ?_) (fun hb208 => ?_)
        · skip
          have HF209 := HF207.subst_ (d := 42) (b := true) rfl hb208
          clear HF207
          (try simp only [decide_eq_true_eq, decide_eq_false_iff_not, Bool.not_eq_true', Bool.not_eq_false', Bool.not_eq_true, Bool.not_eq_false, ne_eq, Decidable.not_not, Int.not_lt, Int.not_le, not_true_eq_false, not_false_eq_true, bne_iff_ne, beq_iff_eq, bne_eq_false_iff_eq, beq_eq_false_iff_ne] at hb208)
          refine wp_exit ?_
          refine gw_thx ?_
          refine gw_out (by decide) ?_
          refine gw_thx ?_
          refine gw_thx ?_
          refine gw_in ?_
          refine gw_nx (hK87 _ _ ?_)
          refine gw_seq fun K210 hK210 => ?_
          refine wp_region_lit ?_
          refine gw_ev HF209 (want_none rfl) rfl (by decide) (op_move rfl (HF209.ev rfl)) ?_
          intro a211 HF212; clear HF209
          refine gw_call HF212 (want_none rfl) rfl (by decide) (op_callL Try.func28 (by kernel_rfl) rfl rfl (ar_cons (HF212.ev rfl) ar_nil)) (GLine_.sent_calls l17 A18 c19 chs en wt at_ now last Az caz al _ (HO100.get 4 rfl) (Kd.R_reads' (HO100.get 6 rfl)).2.2 (row_cap (HO100.get 6 rfl)) (by (first | omega | ((try simp only [List.length_append, List.length_take, List.length_drop, List.length_nil, List.length_cons, List.length_set] at *); omega)))) ?_
          rintro e216 w217 ⟨A213, c214, S215, rfl, hb218⟩
          refine ⟨_, rfl, fun a219 HF220 => ?_⟩
          have HO221 := HO100.fresh hb218
          have hbel222 := HO100.below
          clear HF212 HO100 hb218
          have HO223 := HO221.lowrow 0 rfl (base' := w.heap.size) (Below.size hbel222)
          have HO224 : Own w w217 [Chunk.row (Kd.int .u8) 5 w.heap.size S215 (.slice A213 al.length c214) al, Chunk.row (Kd.int .u8) 5 w.heap.size Sl (.slice Al al.length cal) al, Chunk.blk l31 (.cells #[.slice A32 chs.length c33, .int .i64 en, .int .i64 wt, .int .i64 at_, .int .i64 now, .int .i64 last, .slice none (([] : List Int).length) 0] 83 (0, 0)), Chunk.view k52 S34 A32 chs.length c33 chs, Chunk.row (Kd.int .u8) 5 w.heap.size (fun _ => False) (.slice none (([] : List Int).length) 0) ([] : List Int), Chunk.blk l17 (.cells #[.slice A18 chs.length c19, .int .i64 en, .int .i64 wt, .int .i64 at_, .int .i64 now, .int .i64 last, .slice Az al.length caz] 83 (0, 0)), Chunk.view k52 S20 A18 chs.length c19 chs, Chunk.row (Kd.int .u8) 5 w.heap.size Sz (.slice Az al.length caz) al, Chunk.blk g2 (.cells #[.slice A0_0 chs.length c0_0, .int .i64 en, .int .i64 wt] 48 (0, 0))] := HO223
          clear HO223
          refine gw_ev HF220 (want_none rfl) rfl (by decide) (op_move rfl (HF220.ev rfl)) ?_
          intro a225 HF226; clear HF220
          refine gw_call HF226 (want_none rfl) rfl (by decide) (op_callL Try.func18 (by kernel_rfl) rfl rfl (ar_cons (HF226.ev rfl) (ar_cons (HF226.ev rfl) ar_nil))) (same_calls A213 c214 al Al cal al _ (Kd.R_reads' (HO224.get 0 rfl)).2.2 (row_cap (HO224.get 0 rfl)) (Kd.R_reads' (HO224.get 1 rfl)).2.2 (row_cap (HO224.get 1 rfl)) (by first | omega | (have := next_bl chs en wt at_ now last i ha.1 hz; omega))) ?_
          rintro e227 w228 ⟨rfl, hb229⟩
          refine ⟨_, rfl, fun a230 HF231 => ?_⟩
          have HO232 := HO224.after hb229
          clear HF226 HO224 hb229
          have HF234 := HF231.lit (b := true) (by simp)
          clear HF231
          refine gw_ev HF234 (want_none rfl) rfl (by decide) (op_move rfl (HF234.ev rfl)) ?_
          intro a235 HF236; clear HF234
          refine gw_ev HF236 (want_yes HF236 rfl rfl rfl rfl) rfl (by decide) (op_move rfl (HF236.ev rfl)) ?_
          intro a237 HF238; clear HF236
          refine gw_call HF238 (want_yes HF238 rfl rfl rfl rfl) rfl (by decide) (op_callL Try.func28 (by kernel_rfl) rfl rfl (ar_cons (HF238.ev rfl) ar_nil)) (GLine_.sent_calls l31 A32 c33 chs en wt at_ now last none 0 ([] : List Int) _ (HO232.get 2 rfl) (Kd.R_reads' (HO232.get 4 rfl)).2.2 (row_cap (HO232.get 4 rfl)) (by (first | omega | ((try simp only [List.length_append, List.length_take, List.length_drop, List.length_nil, List.length_cons, List.length_set] at *); omega)))) ?_
          rintro e242 w243 ⟨A239, c240, S241, rfl, hb244⟩
          refine ⟨_, rfl, fun a245 HF246 => ?_⟩
          have HO247 := HO232.fresh hb244
          have hbel248 := HO232.below
          clear HF238 HO232 hb244
          have HO249 := HO247.lowrow 0 rfl (base' := w.heap.size) (Below.size hbel248)
          have HO250 : Own w w243 [Chunk.row (Kd.int .u8) 5 w.heap.size S241 (.slice A239 (([] : List Int).length) c240) ([] : List Int), Chunk.row (Kd.int .u8) 5 w.heap.size S215 (.slice A213 al.length c214) al, Chunk.row (Kd.int .u8) 5 w.heap.size Sl (.slice Al al.length cal) al, Chunk.blk l31 (.cells #[.slice A32 chs.length c33, .int .i64 en, .int .i64 wt, .int .i64 at_, .int .i64 now, .int .i64 last, .slice none (([] : List Int).length) 0] 83 (0, 0)), Chunk.view k52 S34 A32 chs.length c33 chs, Chunk.row (Kd.int .u8) 5 w.heap.size (fun _ => False) (.slice none (([] : List Int).length) 0) ([] : List Int), Chunk.blk l17 (.cells #[.slice A18 chs.length c19, .int .i64 en, .int .i64 wt, .int .i64 at_, .int .i64 now, .int .i64 last, .slice Az al.length caz] 83 (0, 0)), Chunk.view k52 S20 A18 chs.length c19 chs, Chunk.row (Kd.int .u8) 5 w.heap.size Sz (.slice Az al.length caz) al, Chunk.blk g2 (.cells #[.slice A0_0 chs.length c0_0, .int .i64 en, .int .i64 wt] 48 (0, 0))] := HO249
          clear HO249
          refine gw_ev HF246 (want_yes HF246 rfl rfl rfl rfl) rfl (by decide) (op_len Try.underlying26 rfl (HF246.ev rfl)) ?_
          intro a251 HF252; clear HF246
          refine gw_ev HF252 (want_yes HF252 rfl rfl rfl rfl) rfl (by decide) (op_eqi rfl (HF252.ev rfl) (ev_c _ _)) ?_
          intro a253 HF254; clear HF252
          have HF255 := HF254.lit (b := true) (by simp)
          clear HF254
          refine gw_ev HF255 (want_none rfl) rfl (by decide) (op_pick_t rfl (HF255.ev rfl) (HF255.ev rfl)) ?_
          intro a256 HF257; clear HF255
          refine gw_ev HF257 (want_none rfl) rfl (by decide) (op_assign rfl (HF257.ev rfl)) ?_
          intro a258 HF259; clear HF257
          refine wpList_nil ?_
          refine gw_nx (hK210 _ _ ?_)
          refine wp_ret ?_
          refine gw_ret1 HF259 rfl rfl ?_
          exact ⟨rfl, HO250.below⟩
        · skip
          have HF260 := HF207.subst_ (d := 42) (b := false) rfl hb208
          clear HF207
          (try simp only [decide_eq_true_eq, decide_eq_false_iff_not, Bool.not_eq_true', Bool.not_eq_false', Bool.not_eq_true, Bool.not_eq_false, ne_eq, Decidable.not_not, Int.not_lt, Int.not_le, not_true_eq_false, not_false_eq_true, bne_iff_ne, beq_iff_eq, bne_eq_false_iff_eq, beq_eq_false_iff_ne] at hb208)
          refine wp_skip ?_
          refine gw_nx (hK130 _ _ ?_)
          refine gw_seq fun K261 hK261 => ?_
          refine wp_region_lit ?_
          refine gw_ev HF260 (want_none rfl) rfl (by decide) (op_move rfl (HF260.ev rfl)) ?_
          intro a262 HF263; clear HF260
          refine gw_ev HF263 (want_none rfl) rfl (by decide) (op_move rfl (HF263.ev rfl)) ?_
          intro a264 HF265; clear HF263
          have HO275 : Own w _ [(Chunk.all [Chunk.row (Kd.int .u8) 5 w.heap.size Sl (.slice Al al.length cal) al, Chunk.blk l31 (.cells #[.slice A32 chs.length c33, .int .i64 en, .int .i64 wt, .int .i64 at_, .int .i64 now, .int .i64 last, .slice none (([] : List Int).length) 0] 83 (0, 0)), Chunk.view k52 S34 A32 chs.length c33 chs, Chunk.row (Kd.int .u8) 5 w.heap.size (fun _ => False) (.slice none (([] : List Int).length) 0) ([] : List Int), Chunk.view k52 S20 A18 chs.length c19 chs, Chunk.blk g2 (.cells #[.slice A0_0 chs.length c0_0, .int .i64 en, .int .i64 wt] 48 (0, 0))]), Chunk.blk l17 (.cells #[.slice A18 chs.length c19, .int .i64 en, .int .i64 wt, .int .i64 at_, .int .i64 now, .int .i64 last, .slice Az al.length caz] 83 (0, 0)), Chunk.row (Kd.int .u8) 5 w.heap.size Sz (.slice Az al.length caz) al] := Own.bundle (A := [Chunk.row (Kd.int .u8) 5 w.heap.size Sl (.slice Al al.length cal) al, Chunk.blk l31 (.cells #[.slice A32 chs.length c33, .int .i64 en, .int .i64 wt, .int .i64 at_, .int .i64 now, .int .i64 last, .slice none (([] : List Int).length) 0] 83 (0, 0)), Chunk.view k52 S34 A32 chs.length c33 chs, Chunk.row (Kd.int .u8) 5 w.heap.size (fun _ => False) (.slice none (([] : List Int).length) 0) ([] : List Int), Chunk.view k52 S20 A18 chs.length c19 chs, Chunk.blk g2 (.cells #[.slice A0_0 chs.length c0_0, .int .i64 en, .int .i64 wt] 48 (0, 0))]) (L := [Chunk.blk l17 (.cells #[.slice A18 chs.length c19, .int .i64 en, .int .i64 wt, .int .i64 at_, .int .i64 now, .int .i64 last, .slice Az al.length caz] 83 (0, 0)), Chunk.row (Kd.int .u8) 5 w.heap.size Sz (.slice Az al.length caz) al]) (HO100.sel [0, 1, 2, 3, 5, 7, 4, 6] (by decide))
          refine gw_call HF265 (want_none rfl) rfl (by decide) (op_callL Try.func27 (by kernel_rfl) rfl rfl (ar_cons (HF265.ev rfl) (ar_cons (HF265.ev rfl) ar_nil))) (GLine_.send_calls w _ (Chunk.all [Chunk.row (Kd.int .u8) 5 w.heap.size Sl (.slice Al al.length cal) al, Chunk.blk l31 (.cells #[.slice A32 chs.length c33, .int .i64 en, .int .i64 wt, .int .i64 at_, .int .i64 now, .int .i64 last, .slice none (([] : List Int).length) 0] 83 (0, 0)), Chunk.view k52 S34 A32 chs.length c33 chs, Chunk.row (Kd.int .u8) 5 w.heap.size (fun _ => False) (.slice none (([] : List Int).length) 0) ([] : List Int), Chunk.view k52 S20 A18 chs.length c19 chs, Chunk.blk g2 (.cells #[.slice A0_0 chs.length c0_0, .int .i64 en, .int .i64 wt] 48 (0, 0))]) l17 A18 c19 chs en wt at_ now last Az caz al Sz A118 c119 (sends.getD i.toNat ([] : List Int)) (fun w_ h_ => Kd.C_below hC121 h_.below) hl120 (by (first | omega | ((try simp only [List.length_append, List.length_take, List.length_drop, List.length_nil, List.length_cons, List.length_set] at *); omega))) HO275) ?_
          rintro e269 w270 ⟨A266, c267, S268, rfl, hb271⟩
          refine ⟨_, rfl, fun a272 HF273 => ?_⟩
          have HO274 : Own w w270 [Chunk.row (Kd.int .u8) 5 w.heap.size Sl (.slice Al al.length cal) al, Chunk.blk l31 (.cells #[.slice A32 chs.length c33, .int .i64 en, .int .i64 wt, .int .i64 at_, .int .i64 now, .int .i64 last, .slice none (([] : List Int).length) 0] 83 (0, 0)), Chunk.view k52 S34 A32 chs.length c33 chs, Chunk.row (Kd.int .u8) 5 w.heap.size (fun _ => False) (.slice none (([] : List Int).length) 0) ([] : List Int), Chunk.view k52 S20 A18 chs.length c19 chs, Chunk.blk g2 (.cells #[.slice A0_0 chs.length c0_0, .int .i64 en, .int .i64 wt] 48 (0, 0)), Chunk.blk l17 (.cells #[.slice A18 chs.length c19, .int .i64 en, .int .i64 wt, .int .i64 at_, .int .i64 now, .int .i64 last, .slice A266 ((al ++ (sends.getD i.toNat ([] : List Int))).length) c267] 83 (0, 0)), Chunk.row (Kd.int .u8) 5 w.heap.size S268 (.slice A266 ((al ++ (sends.getD i.toNat ([] : List Int))).length) c267) (al ++ (sends.getD i.toNat ([] : List Int)))] := Own.unbundle (A := [Chunk.row (Kd.int .u8) 5 w.heap.size Sl (.slice Al al.length cal) al, Chunk.blk l31 (.cells #[.slice A32 chs.length c33, .int .i64 en, .int .i64 wt, .int .i64 at_, .int .i64 now, .int .i64 last, .slice none (([] : List Int).length) 0] 83 (0, 0)), Chunk.view k52 S34 A32 chs.length c33 chs, Chunk.row (Kd.int .u8) 5 w.heap.size (fun _ => False) (.slice none (([] : List Int).length) 0) ([] : List Int), Chunk.view k52 S20 A18 chs.length c19 chs, Chunk.blk g2 (.cells #[.slice A0_0 chs.length c0_0, .int .i64 en, .int .i64 wt] 48 (0, 0))]) (L := [Chunk.blk l17 (.cells #[.slice A18 chs.length c19, .int .i64 en, .int .i64 wt, .int .i64 at_, .int .i64 now, .int .i64 last, .slice A266 ((al ++ (sends.getD i.toNat ([] : List Int))).length) c267] 83 (0, 0)), Chunk.row (Kd.int .u8) 5 w.heap.size S268 (.slice A266 ((al ++ (sends.getD i.toNat ([] : List Int))).length) c267) (al ++ (sends.getD i.toNat ([] : List Int)))]) (hb271.sel [0, 1, 2] (by decide))
          clear HO275
          clear HF265 HO100 hb271
          have HO277 : Own w w270 [Chunk.row (Kd.int .u8) 5 w.heap.size Sl (.slice Al al.length cal) al, Chunk.blk l31 (.cells #[.slice A32 chs.length c33, .int .i64 en, .int .i64 wt, .int .i64 at_, .int .i64 now, .int .i64 last, .slice none (([] : List Int).length) 0] 83 (0, 0)), Chunk.view k52 S34 A32 chs.length c33 chs, Chunk.row (Kd.int .u8) 5 w.heap.size (fun _ => False) (.slice none (([] : List Int).length) 0) ([] : List Int), Chunk.view k52 S20 A18 chs.length c19 chs, Chunk.blk g2 (.cells #[.slice A0_0 chs.length c0_0, .int .i64 en, .int .i64 wt] 48 (0, 0)), Chunk.blk l17 (.cells #[.slice A18 chs.length c19, .int .i64 en, .int .i64 wt, .int .i64 at_, .int .i64 now, .int .i64 last, .slice A266 ((al ++ (sends.getD i.toNat ([] : List Int))).length) c267] 83 (0, 0)), Chunk.row (Kd.int .u8) 5 w.heap.size S268 (.slice A266 ((al ++ (sends.getD i.toNat ([] : List Int))).length) c267) (al ++ (sends.getD i.toNat ([] : List Int)))] := HO274
          clear HO274
          refine wpList_nil ?_
          refine gw_nx (hK261 _ _ ?_)
          refine gw_seq fun K278 hK278 => ?_
          refine wp_region_lit ?_
          refine gw_ev HF273 (want_none rfl) rfl (by decide) (op_move rfl (HF273.ev rfl)) ?_
          intro a279 HF280; clear HF273
          refine gw_ev HF280 (want_none rfl) rfl (by decide) (op_move rfl (HF280.ev rfl)) ?_
          intro a281 HF282; clear HF280
          refine gw_append (Kd.int .u8) 0 HF282 HO277 (want_none rfl) rfl (by decide) rfl Try.underlying26 gwinfo5 rfl (by decide) (by decide) rfl (HF282.ev rfl) (HF282.ev rfl) (Kd.C_below hC121 HO277.below) (fun _ _ h => h) HO277.below.size (by (first | omega | ((try simp only [List.length_append, List.length_take, List.length_drop, List.length_nil, List.length_cons, List.length_set] at *); omega))) ?_
          intro A283 c284 S285 a286 w287 HF288 HO289; clear HF282 HO277
          have HO290 : Own w w287 [Chunk.row (Kd.int .u8) 5 w.heap.size S285 (.slice A283 ((al ++ (sends.getD i.toNat ([] : List Int))).length) c284) (al ++ (sends.getD i.toNat ([] : List Int))), Chunk.blk l31 (.cells #[.slice A32 chs.length c33, .int .i64 en, .int .i64 wt, .int .i64 at_, .int .i64 now, .int .i64 last, .slice none (([] : List Int).length) 0] 83 (0, 0)), Chunk.view k52 S34 A32 chs.length c33 chs, Chunk.row (Kd.int .u8) 5 w.heap.size (fun _ => False) (.slice none (([] : List Int).length) 0) ([] : List Int), Chunk.view k52 S20 A18 chs.length c19 chs, Chunk.blk g2 (.cells #[.slice A0_0 chs.length c0_0, .int .i64 en, .int .i64 wt] 48 (0, 0)), Chunk.blk l17 (.cells #[.slice A18 chs.length c19, .int .i64 en, .int .i64 wt, .int .i64 at_, .int .i64 now, .int .i64 last, .slice A266 ((al ++ (sends.getD i.toNat ([] : List Int))).length) c267] 83 (0, 0)), Chunk.row (Kd.int .u8) 5 w.heap.size S268 (.slice A266 ((al ++ (sends.getD i.toNat ([] : List Int))).length) c267) (al ++ (sends.getD i.toNat ([] : List Int)))] := HO289
          clear HO289
          refine gw_ev HF288 (want_none rfl) rfl (by decide) (op_assign rfl (HF288.ev rfl)) ?_
          intro a291 HF292; clear HF288
          refine wpList_nil ?_
          refine gw_nx (hK278 _ _ ?_)
          refine gw_seq fun K293 hK293 => ?_
          refine wp_region_lit ?_
          refine gw_ev HF292 (want_none rfl) rfl (by decide) (op_move rfl (HF292.ev rfl)) ?_
          intro a294 HF295; clear HF292
          refine gw_ev HF295 (want_none rfl) rfl (by decide) (op_move rfl (HF295.ev rfl)) ?_
          intro a296 HF297; clear HF295
          have HO307 : Own w _ [(Chunk.all [Chunk.row (Kd.int .u8) 5 w.heap.size S285 (.slice A283 ((al ++ (sends.getD i.toNat ([] : List Int))).length) c284) (al ++ (sends.getD i.toNat ([] : List Int))), Chunk.blk l31 (.cells #[.slice A32 chs.length c33, .int .i64 en, .int .i64 wt, .int .i64 at_, .int .i64 now, .int .i64 last, .slice none (([] : List Int).length) 0] 83 (0, 0)), Chunk.view k52 S34 A32 chs.length c33 chs, Chunk.row (Kd.int .u8) 5 w.heap.size (fun _ => False) (.slice none (([] : List Int).length) 0) ([] : List Int), Chunk.blk g2 (.cells #[.slice A0_0 chs.length c0_0, .int .i64 en, .int .i64 wt] 48 (0, 0)), Chunk.row (Kd.int .u8) 5 w.heap.size S268 (.slice A266 ((al ++ (sends.getD i.toNat ([] : List Int))).length) c267) (al ++ (sends.getD i.toNat ([] : List Int)))]), Chunk.blk l17 (.cells #[.slice A18 chs.length c19, .int .i64 en, .int .i64 wt, .int .i64 at_, .int .i64 now, .int .i64 last, .slice A266 ((al ++ (sends.getD i.toNat ([] : List Int))).length) c267] 83 (0, 0)), Chunk.view k52 S20 A18 chs.length c19 chs] := Own.bundle (A := [Chunk.row (Kd.int .u8) 5 w.heap.size S285 (.slice A283 ((al ++ (sends.getD i.toNat ([] : List Int))).length) c284) (al ++ (sends.getD i.toNat ([] : List Int))), Chunk.blk l31 (.cells #[.slice A32 chs.length c33, .int .i64 en, .int .i64 wt, .int .i64 at_, .int .i64 now, .int .i64 last, .slice none (([] : List Int).length) 0] 83 (0, 0)), Chunk.view k52 S34 A32 chs.length c33 chs, Chunk.row (Kd.int .u8) 5 w.heap.size (fun _ => False) (.slice none (([] : List Int).length) 0) ([] : List Int), Chunk.blk g2 (.cells #[.slice A0_0 chs.length c0_0, .int .i64 en, .int .i64 wt] 48 (0, 0)), Chunk.row (Kd.int .u8) 5 w.heap.size S268 (.slice A266 ((al ++ (sends.getD i.toNat ([] : List Int))).length) c267) (al ++ (sends.getD i.toNat ([] : List Int)))]) (L := [Chunk.blk l17 (.cells #[.slice A18 chs.length c19, .int .i64 en, .int .i64 wt, .int .i64 at_, .int .i64 now, .int .i64 last, .slice A266 ((al ++ (sends.getD i.toNat ([] : List Int))).length) c267] 83 (0, 0)), Chunk.view k52 S20 A18 chs.length c19 chs]) (HO290.sel [0, 1, 2, 3, 5, 7, 6, 4] (by decide))
          refine gw_call HF297 (want_none rfl) rfl (by decide) (op_callL Try.func24 (by kernel_rfl) rfl rfl (ar_cons (HF297.ev rfl) (ar_cons (HF297.ev rfl) ar_nil))) (GLine_.next_calls w _ (Chunk.all [Chunk.row (Kd.int .u8) 5 w.heap.size S285 (.slice A283 ((al ++ (sends.getD i.toNat ([] : List Int))).length) c284) (al ++ (sends.getD i.toNat ([] : List Int))), Chunk.blk l31 (.cells #[.slice A32 chs.length c33, .int .i64 en, .int .i64 wt, .int .i64 at_, .int .i64 now, .int .i64 last, .slice none (([] : List Int).length) 0] 83 (0, 0)), Chunk.view k52 S34 A32 chs.length c33 chs, Chunk.row (Kd.int .u8) 5 w.heap.size (fun _ => False) (.slice none (([] : List Int).length) 0) ([] : List Int), Chunk.blk g2 (.cells #[.slice A0_0 chs.length c0_0, .int .i64 en, .int .i64 wt] 48 (0, 0)), Chunk.row (Kd.int .u8) 5 w.heap.size S268 (.slice A266 ((al ++ (sends.getD i.toNat ([] : List Int))).length) c267) (al ++ (sends.getD i.toNat ([] : List Int)))]) l17 A18 c19 chs en wt at_ now last A266 c267 (al ++ (sends.getD i.toNat ([] : List Int))) S20 i (by (first | omega | ((try simp only [List.length_append, List.length_take, List.length_drop, List.length_nil, List.length_cons, List.length_set] at *); omega))) (by (first | omega | ((try simp only [List.length_append, List.length_take, List.length_drop, List.length_nil, List.length_cons, List.length_set] at *); omega))) (by (first | omega | ((try simp only [List.length_append, List.length_take, List.length_drop, List.length_nil, List.length_cons, List.length_set] at *); omega))) hz HO307) ?_
          rintro e301 w302 ⟨A298, c299, S300, rfl, hb303⟩
          refine ⟨_, rfl, fun a304 HF305 => ?_⟩
          have HO306 : Own w w302 [Chunk.row (Kd.int .u8) 5 w.heap.size S285 (.slice A283 ((al ++ (sends.getD i.toNat ([] : List Int))).length) c284) (al ++ (sends.getD i.toNat ([] : List Int))), Chunk.blk l31 (.cells #[.slice A32 chs.length c33, .int .i64 en, .int .i64 wt, .int .i64 at_, .int .i64 now, .int .i64 last, .slice none (([] : List Int).length) 0] 83 (0, 0)), Chunk.view k52 S34 A32 chs.length c33 chs, Chunk.row (Kd.int .u8) 5 w.heap.size (fun _ => False) (.slice none (([] : List Int).length) 0) ([] : List Int), Chunk.blk g2 (.cells #[.slice A0_0 chs.length c0_0, .int .i64 en, .int .i64 wt] 48 (0, 0)), Chunk.row (Kd.int .u8) 5 w.heap.size S268 (.slice A266 ((al ++ (sends.getD i.toNat ([] : List Int))).length) c267) (al ++ (sends.getD i.toNat ([] : List Int))), Chunk.row (Kd.int .u8) 5 w.heap.size S300 (.slice A298 ((nextL chs en wt at_ now last i).b.length) c299) ((nextL chs en wt at_ now last i).b), Chunk.blk l17 (.cells #[.slice A18 chs.length c19, .int .i64 en, .int .i64 wt, .int .i64 ((nextL chs en wt at_ now last i).at_), .int .i64 ((nextL chs en wt at_ now last i).now), .int .i64 ((nextL chs en wt at_ now last i).last), .slice A266 ((al ++ (sends.getD i.toNat ([] : List Int))).length) c267] 83 (0, 0)), Chunk.view k52 S20 A18 chs.length c19 chs] := Own.unbundle (A := [Chunk.row (Kd.int .u8) 5 w.heap.size S285 (.slice A283 ((al ++ (sends.getD i.toNat ([] : List Int))).length) c284) (al ++ (sends.getD i.toNat ([] : List Int))), Chunk.blk l31 (.cells #[.slice A32 chs.length c33, .int .i64 en, .int .i64 wt, .int .i64 at_, .int .i64 now, .int .i64 last, .slice none (([] : List Int).length) 0] 83 (0, 0)), Chunk.view k52 S34 A32 chs.length c33 chs, Chunk.row (Kd.int .u8) 5 w.heap.size (fun _ => False) (.slice none (([] : List Int).length) 0) ([] : List Int), Chunk.blk g2 (.cells #[.slice A0_0 chs.length c0_0, .int .i64 en, .int .i64 wt] 48 (0, 0)), Chunk.row (Kd.int .u8) 5 w.heap.size S268 (.slice A266 ((al ++ (sends.getD i.toNat ([] : List Int))).length) c267) (al ++ (sends.getD i.toNat ([] : List Int)))]) (L := [Chunk.row (Kd.int .u8) 5 w.heap.size S300 (.slice A298 ((nextL chs en wt at_ now last i).b.length) c299) ((nextL chs en wt at_ now last i).b), Chunk.blk l17 (.cells #[.slice A18 chs.length c19, .int .i64 en, .int .i64 wt, .int .i64 ((nextL chs en wt at_ now last i).at_), .int .i64 ((nextL chs en wt at_ now last i).now), .int .i64 ((nextL chs en wt at_ now last i).last), .slice A266 ((al ++ (sends.getD i.toNat ([] : List Int))).length) c267] 83 (0, 0)), Chunk.view k52 S20 A18 chs.length c19 chs]) (hb303.sel [1, 0, 2, 3] (by decide))
          clear HO307
          clear HF297 HO290 hb303
          have HO309 : Own w w302 [Chunk.row (Kd.int .u8) 5 w.heap.size S285 (.slice A283 ((al ++ (sends.getD i.toNat ([] : List Int))).length) c284) (al ++ (sends.getD i.toNat ([] : List Int))), Chunk.blk l31 (.cells #[.slice A32 chs.length c33, .int .i64 en, .int .i64 wt, .int .i64 at_, .int .i64 now, .int .i64 last, .slice none (([] : List Int).length) 0] 83 (0, 0)), Chunk.view k52 S34 A32 chs.length c33 chs, Chunk.row (Kd.int .u8) 5 w.heap.size (fun _ => False) (.slice none (([] : List Int).length) 0) ([] : List Int), Chunk.blk g2 (.cells #[.slice A0_0 chs.length c0_0, .int .i64 en, .int .i64 wt] 48 (0, 0)), Chunk.row (Kd.int .u8) 5 w.heap.size S268 (.slice A266 ((al ++ (sends.getD i.toNat ([] : List Int))).length) c267) (al ++ (sends.getD i.toNat ([] : List Int))), Chunk.row (Kd.int .u8) 5 w.heap.size S300 (.slice A298 ((nextL chs en wt at_ now last i).b.length) c299) ((nextL chs en wt at_ now last i).b), Chunk.blk l17 (.cells #[.slice A18 chs.length c19, .int .i64 en, .int .i64 wt, .int .i64 ((nextL chs en wt at_ now last i).at_), .int .i64 ((nextL chs en wt at_ now last i).now), .int .i64 ((nextL chs en wt at_ now last i).last), .slice A266 ((al ++ (sends.getD i.toNat ([] : List Int))).length) c267] 83 (0, 0)), Chunk.view k52 S20 A18 chs.length c19 chs] := HO306
          clear HO306
          refine gw_ev HF305 (want_none rfl) rfl (by decide) (op_move rfl (HF305.ev rfl)) ?_
          intro a310 HF311; clear HF305
          refine gw_ev HF311 (want_none rfl) rfl (by decide) (op_extract rfl (HF311.ev rfl) rfl) ?_
          intro a312 HF313; clear HF311
          refine gw_ev HF313 (want_none rfl) rfl (by decide) (op_extract rfl (HF313.ev rfl) rfl) ?_
          intro a314 HF315; clear HF313
          refine gw_ev HF315 (want_none rfl) rfl (by decide) (op_assign rfl (HF315.ev rfl)) ?_
          intro a316 HF317; clear HF315
          refine gw_ev HF317 (want_none rfl) rfl (by decide) (op_assign rfl (HF317.ev rfl)) ?_
          intro a318 HF319; clear HF317
          refine wpList_nil ?_
          refine gw_nx (hK293 _ _ ?_)
          refine gw_seq fun K320 hK320 => ?_
          refine wp_region_lit ?_
          refine gw_ev HF319 (want_none rfl) rfl (by decide) (op_move rfl (HF319.ev rfl)) ?_
          intro a321 HF322; clear HF319
          refine gw_ev HF322 (want_none rfl) rfl (by decide) (op_move rfl (HF322.ev rfl)) ?_
          intro a323 HF324; clear HF322
          have HO334 : Own w _ [(Chunk.all [Chunk.row (Kd.int .u8) 5 w.heap.size S285 (.slice A283 ((al ++ (sends.getD i.toNat ([] : List Int))).length) c284) (al ++ (sends.getD i.toNat ([] : List Int))), Chunk.row (Kd.int .u8) 5 w.heap.size (fun _ => False) (.slice none (([] : List Int).length) 0) ([] : List Int), Chunk.blk g2 (.cells #[.slice A0_0 chs.length c0_0, .int .i64 en, .int .i64 wt] 48 (0, 0)), Chunk.row (Kd.int .u8) 5 w.heap.size S268 (.slice A266 ((al ++ (sends.getD i.toNat ([] : List Int))).length) c267) (al ++ (sends.getD i.toNat ([] : List Int))), Chunk.row (Kd.int .u8) 5 w.heap.size S300 (.slice A298 ((nextL chs en wt at_ now last i).b.length) c299) ((nextL chs en wt at_ now last i).b), Chunk.blk l17 (.cells #[.slice A18 chs.length c19, .int .i64 en, .int .i64 wt, .int .i64 ((nextL chs en wt at_ now last i).at_), .int .i64 ((nextL chs en wt at_ now last i).now), .int .i64 ((nextL chs en wt at_ now last i).last), .slice A266 ((al ++ (sends.getD i.toNat ([] : List Int))).length) c267] 83 (0, 0)), Chunk.view k52 S20 A18 chs.length c19 chs]), Chunk.blk l31 (.cells #[.slice A32 chs.length c33, .int .i64 en, .int .i64 wt, .int .i64 at_, .int .i64 now, .int .i64 last, .slice none (([] : List Int).length) 0] 83 (0, 0)), Chunk.view k52 S34 A32 chs.length c33 chs] := Own.bundle (A := [Chunk.row (Kd.int .u8) 5 w.heap.size S285 (.slice A283 ((al ++ (sends.getD i.toNat ([] : List Int))).length) c284) (al ++ (sends.getD i.toNat ([] : List Int))), Chunk.row (Kd.int .u8) 5 w.heap.size (fun _ => False) (.slice none (([] : List Int).length) 0) ([] : List Int), Chunk.blk g2 (.cells #[.slice A0_0 chs.length c0_0, .int .i64 en, .int .i64 wt] 48 (0, 0)), Chunk.row (Kd.int .u8) 5 w.heap.size S268 (.slice A266 ((al ++ (sends.getD i.toNat ([] : List Int))).length) c267) (al ++ (sends.getD i.toNat ([] : List Int))), Chunk.row (Kd.int .u8) 5 w.heap.size S300 (.slice A298 ((nextL chs en wt at_ now last i).b.length) c299) ((nextL chs en wt at_ now last i).b), Chunk.blk l17 (.cells #[.slice A18 chs.length c19, .int .i64 en, .int .i64 wt, .int .i64 ((nextL chs en wt at_ now last i).at_), .int .i64 ((nextL chs en wt at_ now last i).now), .int .i64 ((nextL chs en wt at_ now last i).last), .slice A266 ((al ++ (sends.getD i.toNat ([] : List Int))).length) c267] 83 (0, 0)), Chunk.view k52 S20 A18 chs.length c19 chs]) (L := [Chunk.blk l31 (.cells #[.slice A32 chs.length c33, .int .i64 en, .int .i64 wt, .int .i64 at_, .int .i64 now, .int .i64 last, .slice none (([] : List Int).length) 0] 83 (0, 0)), Chunk.view k52 S34 A32 chs.length c33 chs]) (HO309.sel [0, 3, 4, 5, 6, 7, 8, 1, 2] (by decide))
          refine gw_call HF324 (want_none rfl) rfl (by decide) (op_callL Try.func24 (by kernel_rfl) rfl rfl (ar_cons (HF324.ev rfl) (ar_cons (HF324.ev rfl) ar_nil))) (GLine_.next_calls w _ (Chunk.all [Chunk.row (Kd.int .u8) 5 w.heap.size S285 (.slice A283 ((al ++ (sends.getD i.toNat ([] : List Int))).length) c284) (al ++ (sends.getD i.toNat ([] : List Int))), Chunk.row (Kd.int .u8) 5 w.heap.size (fun _ => False) (.slice none (([] : List Int).length) 0) ([] : List Int), Chunk.blk g2 (.cells #[.slice A0_0 chs.length c0_0, .int .i64 en, .int .i64 wt] 48 (0, 0)), Chunk.row (Kd.int .u8) 5 w.heap.size S268 (.slice A266 ((al ++ (sends.getD i.toNat ([] : List Int))).length) c267) (al ++ (sends.getD i.toNat ([] : List Int))), Chunk.row (Kd.int .u8) 5 w.heap.size S300 (.slice A298 ((nextL chs en wt at_ now last i).b.length) c299) ((nextL chs en wt at_ now last i).b), Chunk.blk l17 (.cells #[.slice A18 chs.length c19, .int .i64 en, .int .i64 wt, .int .i64 ((nextL chs en wt at_ now last i).at_), .int .i64 ((nextL chs en wt at_ now last i).now), .int .i64 ((nextL chs en wt at_ now last i).last), .slice A266 ((al ++ (sends.getD i.toNat ([] : List Int))).length) c267] 83 (0, 0)), Chunk.view k52 S20 A18 chs.length c19 chs]) l31 A32 c33 chs en wt at_ now last none 0 ([] : List Int) S34 i (by (first | omega | ((try simp only [List.length_append, List.length_take, List.length_drop, List.length_nil, List.length_cons, List.length_set] at *); omega))) (by (first | omega | ((try simp only [List.length_append, List.length_take, List.length_drop, List.length_nil, List.length_cons, List.length_set] at *); omega))) (by (first | omega | ((try simp only [List.length_append, List.length_take, List.length_drop, List.length_nil, List.length_cons, List.length_set] at *); omega))) hz HO334) ?_
          rintro e328 w329 ⟨A325, c326, S327, rfl, hb330⟩
          refine ⟨_, rfl, fun a331 HF332 => ?_⟩
          have HO333 : Own w w329 [Chunk.row (Kd.int .u8) 5 w.heap.size S285 (.slice A283 ((al ++ (sends.getD i.toNat ([] : List Int))).length) c284) (al ++ (sends.getD i.toNat ([] : List Int))), Chunk.row (Kd.int .u8) 5 w.heap.size (fun _ => False) (.slice none (([] : List Int).length) 0) ([] : List Int), Chunk.blk g2 (.cells #[.slice A0_0 chs.length c0_0, .int .i64 en, .int .i64 wt] 48 (0, 0)), Chunk.row (Kd.int .u8) 5 w.heap.size S268 (.slice A266 ((al ++ (sends.getD i.toNat ([] : List Int))).length) c267) (al ++ (sends.getD i.toNat ([] : List Int))), Chunk.row (Kd.int .u8) 5 w.heap.size S300 (.slice A298 ((nextL chs en wt at_ now last i).b.length) c299) ((nextL chs en wt at_ now last i).b), Chunk.blk l17 (.cells #[.slice A18 chs.length c19, .int .i64 en, .int .i64 wt, .int .i64 ((nextL chs en wt at_ now last i).at_), .int .i64 ((nextL chs en wt at_ now last i).now), .int .i64 ((nextL chs en wt at_ now last i).last), .slice A266 ((al ++ (sends.getD i.toNat ([] : List Int))).length) c267] 83 (0, 0)), Chunk.view k52 S20 A18 chs.length c19 chs, Chunk.row (Kd.int .u8) 5 w.heap.size S327 (.slice A325 ((nextL chs en wt at_ now last i).b.length) c326) ((nextL chs en wt at_ now last i).b), Chunk.blk l31 (.cells #[.slice A32 chs.length c33, .int .i64 en, .int .i64 wt, .int .i64 ((nextL chs en wt at_ now last i).at_), .int .i64 ((nextL chs en wt at_ now last i).now), .int .i64 ((nextL chs en wt at_ now last i).last), .slice none (([] : List Int).length) 0] 83 (0, 0)), Chunk.view k52 S34 A32 chs.length c33 chs] := Own.unbundle (A := [Chunk.row (Kd.int .u8) 5 w.heap.size S285 (.slice A283 ((al ++ (sends.getD i.toNat ([] : List Int))).length) c284) (al ++ (sends.getD i.toNat ([] : List Int))), Chunk.row (Kd.int .u8) 5 w.heap.size (fun _ => False) (.slice none (([] : List Int).length) 0) ([] : List Int), Chunk.blk g2 (.cells #[.slice A0_0 chs.length c0_0, .int .i64 en, .int .i64 wt] 48 (0, 0)), Chunk.row (Kd.int .u8) 5 w.heap.size S268 (.slice A266 ((al ++ (sends.getD i.toNat ([] : List Int))).length) c267) (al ++ (sends.getD i.toNat ([] : List Int))), Chunk.row (Kd.int .u8) 5 w.heap.size S300 (.slice A298 ((nextL chs en wt at_ now last i).b.length) c299) ((nextL chs en wt at_ now last i).b), Chunk.blk l17 (.cells #[.slice A18 chs.length c19, .int .i64 en, .int .i64 wt, .int .i64 ((nextL chs en wt at_ now last i).at_), .int .i64 ((nextL chs en wt at_ now last i).now), .int .i64 ((nextL chs en wt at_ now last i).last), .slice A266 ((al ++ (sends.getD i.toNat ([] : List Int))).length) c267] 83 (0, 0)), Chunk.view k52 S20 A18 chs.length c19 chs]) (L := [Chunk.row (Kd.int .u8) 5 w.heap.size S327 (.slice A325 ((nextL chs en wt at_ now last i).b.length) c326) ((nextL chs en wt at_ now last i).b), Chunk.blk l31 (.cells #[.slice A32 chs.length c33, .int .i64 en, .int .i64 wt, .int .i64 ((nextL chs en wt at_ now last i).at_), .int .i64 ((nextL chs en wt at_ now last i).now), .int .i64 ((nextL chs en wt at_ now last i).last), .slice none (([] : List Int).length) 0] 83 (0, 0)), Chunk.view k52 S34 A32 chs.length c33 chs]) (hb330.sel [1, 0, 2, 3] (by decide))
          clear HO334
          clear HF324 HO309 hb330
          have HO336 : Own w w329 [Chunk.row (Kd.int .u8) 5 w.heap.size S285 (.slice A283 ((al ++ (sends.getD i.toNat ([] : List Int))).length) c284) (al ++ (sends.getD i.toNat ([] : List Int))), Chunk.row (Kd.int .u8) 5 w.heap.size (fun _ => False) (.slice none (([] : List Int).length) 0) ([] : List Int), Chunk.blk g2 (.cells #[.slice A0_0 chs.length c0_0, .int .i64 en, .int .i64 wt] 48 (0, 0)), Chunk.row (Kd.int .u8) 5 w.heap.size S268 (.slice A266 ((al ++ (sends.getD i.toNat ([] : List Int))).length) c267) (al ++ (sends.getD i.toNat ([] : List Int))), Chunk.row (Kd.int .u8) 5 w.heap.size S300 (.slice A298 ((nextL chs en wt at_ now last i).b.length) c299) ((nextL chs en wt at_ now last i).b), Chunk.blk l17 (.cells #[.slice A18 chs.length c19, .int .i64 en, .int .i64 wt, .int .i64 ((nextL chs en wt at_ now last i).at_), .int .i64 ((nextL chs en wt at_ now last i).now), .int .i64 ((nextL chs en wt at_ now last i).last), .slice A266 ((al ++ (sends.getD i.toNat ([] : List Int))).length) c267] 83 (0, 0)), Chunk.view k52 S20 A18 chs.length c19 chs, Chunk.row (Kd.int .u8) 5 w.heap.size S327 (.slice A325 ((nextL chs en wt at_ now last i).b.length) c326) ((nextL chs en wt at_ now last i).b), Chunk.blk l31 (.cells #[.slice A32 chs.length c33, .int .i64 en, .int .i64 wt, .int .i64 ((nextL chs en wt at_ now last i).at_), .int .i64 ((nextL chs en wt at_ now last i).now), .int .i64 ((nextL chs en wt at_ now last i).last), .slice none (([] : List Int).length) 0] 83 (0, 0)), Chunk.view k52 S34 A32 chs.length c33 chs] := HO333
          clear HO333
          refine gw_ev HF332 (want_none rfl) rfl (by decide) (op_move rfl (HF332.ev rfl)) ?_
          intro a337 HF338; clear HF332
          refine gw_ev HF338 (want_none rfl) rfl (by decide) (op_extract rfl (HF338.ev rfl) rfl) ?_
          intro a339 HF340; clear HF338
          refine gw_ev HF340 (want_none rfl) rfl (by decide) (op_extract rfl (HF340.ev rfl) rfl) ?_
          intro a341 HF342; clear HF340
          refine gw_ev HF342 (want_none rfl) rfl (by decide) (op_assign rfl (HF342.ev rfl)) ?_
          intro a343 HF344; clear HF342
          refine gw_ev HF344 (want_none rfl) rfl (by decide) (op_assign rfl (HF344.ev rfl)) ?_
          intro a345 HF346; clear HF344
          refine wpList_nil ?_
          refine gw_nx (hK320 _ _ ?_)
          refine gw_seq fun K347 hK347 => ?_
          refine wp_region_lit ?_
          refine gw_ev HF346 (want_none rfl) rfl (by decide) (op_move rfl (HF346.ev rfl)) ?_
          intro a348 HF349; clear HF346
          refine gw_ev HF349 (want_none rfl) rfl (by decide) (op_move rfl (HF349.ev rfl)) ?_
          intro a350 HF351; clear HF349
          refine gw_ev HF351 (want_none rfl) rfl (by decide) (op_nei rfl (HF351.ev rfl) (HF351.ev rfl)) ?_
          intro a352 HF353; clear HF351
          have HF354 := HF353.lit (b := false) (by simp)
          clear HF353
          refine gw_ev HF354 (want_none rfl) rfl (by decide) (op_move rfl (HF354.ev rfl)) ?_
          intro a355 HF356; clear HF354
          refine gw_ev HF356 (want_yes HF356 rfl rfl rfl rfl) rfl (by decide) (op_move rfl (HF356.ev rfl)) ?_
          intro a357 HF358; clear HF356
          refine gw_ev HF358 (want_yes HF358 rfl rfl rfl rfl) rfl (by decide) (op_move rfl (HF358.ev rfl)) ?_
          intro a359 HF360; clear HF358
          refine gw_call HF360 (want_yes HF360 rfl rfl rfl rfl) rfl (by decide) (op_callL Try.func18 (by kernel_rfl) rfl rfl (ar_cons (HF360.ev rfl) (ar_cons (HF360.ev rfl) ar_nil))) (same_calls A298 c299 ((nextL chs en wt at_ now last i).b) A325 c326 ((nextL chs en wt at_ now last i).b) _ (Kd.R_reads' (HO336.get 4 rfl)).2.2 (row_cap (HO336.get 4 rfl)) (Kd.R_reads' (HO336.get 7 rfl)).2.2 (row_cap (HO336.get 7 rfl)) (by first | omega | (have := next_bl chs en wt at_ now last i ha.1 hz; omega))) ?_
          rintro e361 w362 ⟨rfl, hb363⟩
          refine ⟨_, rfl, fun a364 HF365 => ?_⟩
          have HO366 := HO336.after hb363
          clear HF360 HO336 hb363
          have HF368 := HF365.lit (b := true) (by simp)
          clear HF365
          refine gw_ev HF368 (want_yes HF368 rfl rfl rfl rfl) rfl (by decide) (op_not rfl (HF368.ev rfl)) ?_
          intro a369 HF370; clear HF368
          refine gw_ev HF370 (want_none rfl) rfl (by decide) (op_pick_f rfl (HF370.ev rfl) (HF370.ev rfl)) ?_
          intro a371 HF372; clear HF370
          refine gw_ev HF372 (want_none rfl) rfl (by decide) (op_move rfl (HF372.ev rfl)) ?_
          intro a373 HF374; clear HF372
          refine gw_ev HF374 (want_yes HF374 rfl rfl rfl rfl) rfl (by decide) (op_move rfl (HF374.ev rfl)) ?_
          intro a375 HF376; clear HF374
          refine gw_call HF376 (want_yes HF376 rfl rfl rfl rfl) rfl (by decide) (op_callL Try.func25 (by kernel_rfl) rfl rfl (ar_cons (HF376.ev rfl) ar_nil)) (GLine_.now_calls l17 A18 c19 chs en wt ((nextL chs en wt at_ now last i).at_) ((nextL chs en wt at_ now last i).now) ((nextL chs en wt at_ now last i).last) A266 c267 (al ++ (sends.getD i.toNat ([] : List Int))) _ (HO366.get 5 rfl)) ?_
          rintro e377 w378 ⟨rfl, hb379⟩
          refine ⟨_, rfl, fun a380 HF381 => ?_⟩
          have HO382 := HO366.after hb379
          clear HF376 HO366 hb379
          refine gw_ev HF381 (want_yes HF381 rfl rfl rfl rfl) rfl (by decide) (op_move rfl (HF381.ev rfl)) ?_
          intro a384 HF385; clear HF381
          refine gw_call HF385 (want_yes HF385 rfl rfl rfl rfl) rfl (by decide) (op_callL Try.func25 (by kernel_rfl) rfl rfl (ar_cons (HF385.ev rfl) ar_nil)) (GLine_.now_calls l31 A32 c33 chs en wt ((nextL chs en wt at_ now last i).at_) ((nextL chs en wt at_ now last i).now) ((nextL chs en wt at_ now last i).last) none 0 ([] : List Int) _ (HO382.get 8 rfl)) ?_
          rintro e386 w387 ⟨rfl, hb388⟩
          refine ⟨_, rfl, fun a389 HF390 => ?_⟩
          have HO391 := HO382.after hb388
          clear HF385 HO382 hb388
          refine gw_ev HF390 (want_yes HF390 rfl rfl rfl rfl) rfl (by decide) (op_nei rfl (HF390.ev rfl) (HF390.ev rfl)) ?_
          intro a393 HF394; clear HF390
          have HF395 := HF394.lit (b := false) (by simp)
          clear HF394
          refine gw_ev HF395 (want_none rfl) rfl (by decide) (op_pick_f rfl (HF395.ev rfl) (HF395.ev rfl)) ?_
          intro a396 HF397; clear HF395
          refine wpList_nil ?_
          refine gw_nx (hK347 _ _ ?_)
          refine gw_cond HF397 rfl (fun hb398 => ?_) (fun hb398 => ?_)
          skip
          · cases hb398
          refine wp_skip ?_
          refine gw_blk ?_
          refine gw_nx (hK108 _ _ ?_)
          refine wp_region_lit ?_
          refine gw_ev HF397 (want_none rfl) rfl (by decide) (op_add rfl (HF397.ev rfl) (ev_c _ _) (by (first | omega | ((try simp only [List.length_append, List.length_take, List.length_drop, List.length_nil, List.length_cons, List.length_set] at *); omega)))) ?_
          intro a399 HF400; clear HF397
          refine gw_ev HF400 (want_none rfl) rfl (by decide) (op_move rfl (HF400.ev rfl)) ?_
          intro a401 HF402; clear HF400
          refine wpList_nil ?_
          refine gw_nx ⟨_, ?_, i + 1, (nextL chs en wt at_ now last i).at_, (nextL chs en wt at_ now last i).now, (nextL chs en wt at_ now last i).last, al ++ (sends.getD i.toNat ([] : List Int)), A283, _, _, A266, _, _, (HF402.pick (t := 31) rfl (HF402.pick (t := 7) rfl (HF402.pick (t := 5) rfl (HF402.pick (t := 6) rfl (HF402.pick (t := 29) rfl (HF402.pick (t := 30) rfl HF402.nil)))))), HO391.sel [0, 8, 9, 1, 5, 6, 3, 2] (by decide), ?_, ?_, ?_, ?_, rfl⟩
          · rw [hm101]; (first | omega | ((try simp only [List.length_append, List.length_take, List.length_drop, List.length_nil, List.length_cons, List.length_set] at *); omega))
          · (first | omega | ((try simp only [List.length_append, List.length_take, List.length_drop, List.length_nil, List.length_cons, List.length_set] at *); omega))
          · exact (next_st chs en wt at_ now last i ha hl).1
          · exact (next_st chs en wt at_ now last i ha hl).2
          · (first | omega | ((try simp only [List.length_append, List.length_take, List.length_drop, List.length_nil, List.length_cons, List.length_set] at *); omega))
    · skip
      have HF403 := HF104.subst_ (d := 32) (b := false) rfl hb106
      clear HF104
      (try simp only [decide_eq_true_eq, decide_eq_false_iff_not, Bool.not_eq_true', Bool.not_eq_false', Bool.not_eq_true, Bool.not_eq_false, ne_eq, Decidable.not_not, Int.not_lt, Int.not_le, not_true_eq_false, not_false_eq_true, bne_iff_ne, beq_iff_eq, bne_eq_false_iff_eq, beq_eq_false_iff_ne] at hb106)
      refine wp_exit ?_
      refine gw_thx ?_
      refine gw_thx ?_
      refine gw_in ?_
      refine gw_nx (hK87 _ _ ?_)
      refine gw_seq fun K404 hK404 => ?_
      refine wp_region_lit ?_
      refine gw_ev HF403 (want_none rfl) rfl (by decide) (op_move rfl (HF403.ev rfl)) ?_
      intro a405 HF406; clear HF403
      refine gw_call HF406 (want_none rfl) rfl (by decide) (op_callL Try.func28 (by kernel_rfl) rfl rfl (ar_cons (HF406.ev rfl) ar_nil)) (GLine_.sent_calls l17 A18 c19 chs en wt at_ now last Az caz al _ (HO100.get 4 rfl) (Kd.R_reads' (HO100.get 6 rfl)).2.2 (row_cap (HO100.get 6 rfl)) (by (first | omega | ((try simp only [List.length_append, List.length_take, List.length_drop, List.length_nil, List.length_cons, List.length_set] at *); omega)))) ?_
      rintro e410 w411 ⟨A407, c408, S409, rfl, hb412⟩
      refine ⟨_, rfl, fun a413 HF414 => ?_⟩
      have HO415 := HO100.fresh hb412
      have hbel416 := HO100.below
      clear HF406 HO100 hb412
      have HO417 := HO415.lowrow 0 rfl (base' := w.heap.size) (Below.size hbel416)
      have HO418 : Own w w411 [Chunk.row (Kd.int .u8) 5 w.heap.size S409 (.slice A407 al.length c408) al, Chunk.row (Kd.int .u8) 5 w.heap.size Sl (.slice Al al.length cal) al, Chunk.blk l31 (.cells #[.slice A32 chs.length c33, .int .i64 en, .int .i64 wt, .int .i64 at_, .int .i64 now, .int .i64 last, .slice none (([] : List Int).length) 0] 83 (0, 0)), Chunk.view k52 S34 A32 chs.length c33 chs, Chunk.row (Kd.int .u8) 5 w.heap.size (fun _ => False) (.slice none (([] : List Int).length) 0) ([] : List Int), Chunk.blk l17 (.cells #[.slice A18 chs.length c19, .int .i64 en, .int .i64 wt, .int .i64 at_, .int .i64 now, .int .i64 last, .slice Az al.length caz] 83 (0, 0)), Chunk.view k52 S20 A18 chs.length c19 chs, Chunk.row (Kd.int .u8) 5 w.heap.size Sz (.slice Az al.length caz) al, Chunk.blk g2 (.cells #[.slice A0_0 chs.length c0_0, .int .i64 en, .int .i64 wt] 48 (0, 0))] := HO417
      clear HO417
      refine gw_ev HF414 (want_none rfl) rfl (by decide) (op_move rfl (HF414.ev rfl)) ?_
      intro a419 HF420; clear HF414
      refine gw_call HF420 (want_none rfl) rfl (by decide) (op_callL Try.func18 (by kernel_rfl) rfl rfl (ar_cons (HF420.ev rfl) (ar_cons (HF420.ev rfl) ar_nil))) (same_calls A407 c408 al Al cal al _ (Kd.R_reads' (HO418.get 0 rfl)).2.2 (row_cap (HO418.get 0 rfl)) (Kd.R_reads' (HO418.get 1 rfl)).2.2 (row_cap (HO418.get 1 rfl)) (by first | omega | (have := next_bl chs en wt at_ now last i ha.1 hz; omega))) ?_
      rintro e421 w422 ⟨rfl, hb423⟩
      refine ⟨_, rfl, fun a424 HF425 => ?_⟩
      have HO426 := HO418.after hb423
      clear HF420 HO418 hb423
      have HF428 := HF425.lit (b := true) (by simp)
      clear HF425
      refine gw_ev HF428 (want_none rfl) rfl (by decide) (op_move rfl (HF428.ev rfl)) ?_
      intro a429 HF430; clear HF428
      refine gw_ev HF430 (want_yes HF430 rfl rfl rfl rfl) rfl (by decide) (op_move rfl (HF430.ev rfl)) ?_
      intro a431 HF432; clear HF430
      refine gw_call HF432 (want_yes HF432 rfl rfl rfl rfl) rfl (by decide) (op_callL Try.func28 (by kernel_rfl) rfl rfl (ar_cons (HF432.ev rfl) ar_nil)) (GLine_.sent_calls l31 A32 c33 chs en wt at_ now last none 0 ([] : List Int) _ (HO426.get 2 rfl) (Kd.R_reads' (HO426.get 4 rfl)).2.2 (row_cap (HO426.get 4 rfl)) (by (first | omega | ((try simp only [List.length_append, List.length_take, List.length_drop, List.length_nil, List.length_cons, List.length_set] at *); omega)))) ?_
      rintro e436 w437 ⟨A433, c434, S435, rfl, hb438⟩
      refine ⟨_, rfl, fun a439 HF440 => ?_⟩
      have HO441 := HO426.fresh hb438
      have hbel442 := HO426.below
      clear HF432 HO426 hb438
      have HO443 := HO441.lowrow 0 rfl (base' := w.heap.size) (Below.size hbel442)
      have HO444 : Own w w437 [Chunk.row (Kd.int .u8) 5 w.heap.size S435 (.slice A433 (([] : List Int).length) c434) ([] : List Int), Chunk.row (Kd.int .u8) 5 w.heap.size S409 (.slice A407 al.length c408) al, Chunk.row (Kd.int .u8) 5 w.heap.size Sl (.slice Al al.length cal) al, Chunk.blk l31 (.cells #[.slice A32 chs.length c33, .int .i64 en, .int .i64 wt, .int .i64 at_, .int .i64 now, .int .i64 last, .slice none (([] : List Int).length) 0] 83 (0, 0)), Chunk.view k52 S34 A32 chs.length c33 chs, Chunk.row (Kd.int .u8) 5 w.heap.size (fun _ => False) (.slice none (([] : List Int).length) 0) ([] : List Int), Chunk.blk l17 (.cells #[.slice A18 chs.length c19, .int .i64 en, .int .i64 wt, .int .i64 at_, .int .i64 now, .int .i64 last, .slice Az al.length caz] 83 (0, 0)), Chunk.view k52 S20 A18 chs.length c19 chs, Chunk.row (Kd.int .u8) 5 w.heap.size Sz (.slice Az al.length caz) al, Chunk.blk g2 (.cells #[.slice A0_0 chs.length c0_0, .int .i64 en, .int .i64 wt] 48 (0, 0))] := HO443
      clear HO443
      refine gw_ev HF440 (want_yes HF440 rfl rfl rfl rfl) rfl (by decide) (op_len Try.underlying26 rfl (HF440.ev rfl)) ?_
      intro a445 HF446; clear HF440
      refine gw_ev HF446 (want_yes HF446 rfl rfl rfl rfl) rfl (by decide) (op_eqi rfl (HF446.ev rfl) (ev_c _ _)) ?_
      intro a447 HF448; clear HF446
      have HF449 := HF448.lit (b := true) (by simp)
      clear HF448
      refine gw_ev HF449 (want_none rfl) rfl (by decide) (op_pick_t rfl (HF449.ev rfl) (HF449.ev rfl)) ?_
      intro a450 HF451; clear HF449
      refine gw_ev HF451 (want_none rfl) rfl (by decide) (op_assign rfl (HF451.ev rfl)) ?_
      intro a452 HF453; clear HF451
      refine wpList_nil ?_
      refine gw_nx (hK404 _ _ ?_)
      refine wp_ret ?_
      refine gw_ret1 HF453 rfl rfl ?_
      exact ⟨rfl, HO444.below⟩
end GLineSends_
open Classical in
noncomputable def colloquylaw10_LineSends.f (l0_0 : List S52) (a0_1 : Int) (a0_2 : Int) (l1 : List (List Int)) : Option Bool := if (l0_0.length ≤ 4398046511102) ∧ (∀ x ∈ l0_0, x.f1.length ≤ 140737488351232) ∧ (l1.length ≤ 9223372036854775807) then some true else none
theorem colloquylaw10_LineSends.calls (A0_0 : Option Addr) (c0_0 : Nat) (l0_0 : List S52) (a0_1 : Int) (a0_2 : Int) (A1 : Option Addr) (c1 : Nat) (l1 : List (List Int)) (r : Bool) (w : World) (hr0_0 : Kd.C k52 w A0_0 l0_0.length l0_0) (hc0_0 : l0_0.length ≤ c0_0) (hr1 : Kd.C (Kd.slice 5 (Kd.int .u8)) w A1 l1.length l1) (hc1 : l1.length ≤ c1) (h : colloquylaw10_LineSends.f l0_0 a0_1 a0_2 l1 = some r) :
    Calls Try.prog 8 #[(.agg #[.slice A0_0 l0_0.length c0_0, .int .i64 a0_1, .int .i64 a0_2]), (.slice A1 l1.length c1)] w fun e w' => e = .returned (.bool r) ∧ Below w.heap.size w w' := by
  unfold colloquylaw10_LineSends.f at h
  split at h
  · cases h; rename_i hh; exact GLineSends_.LineSends_calls A0_0 c0_0 l0_0 a0_1 a0_2 A1 c1 l1 w hr0_0 hc0_0 hr1 hc1 hh.1 hh.2.1 hh.2.2
  · cases h
end Go.Proofs.Ytbnoedefkbnpjaa.PA
