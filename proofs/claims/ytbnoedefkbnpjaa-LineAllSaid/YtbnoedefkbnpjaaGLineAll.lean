/- LineAll. Printed by a program of this session; Lean checks it. -/
import Derived.Test.YtbnoedefkbnpjaaGLineAlive
namespace Go.Proofs.Ytbnoedefkbnpjaa.PA
open Go.RowKit Go.Proofs.YtbnoedefkbnpjaaW.PrintWords Go.Proofs.YtbnoedefkbnpjaaW.PrintLast Go.Proofs.YtbnoedefkbnpjaaW.PrintMore
set_option linter.unusedVariables false
set_option linter.unusedSimpArgs false
namespace GLineAll_
theorem gwagg26 : ∀ w, (isAgg 26).run Try.prog w = .ok false w := fun _ => by kernel_rfl
theorem gwagg3 : ∀ w, (isAgg 3).run Try.prog w = .ok false w := fun _ => by kernel_rfl
theorem gwagg46 : ∀ w, (isAgg 46).run Try.prog w = .ok false w := fun _ => by kernel_rfl
theorem gwagg48 : ∀ w, (isAgg 48).run Try.prog w = .ok true w := fun _ => by kernel_rfl
theorem gwagg52 : ∀ w, (isAgg 52).run Try.prog w = .ok true w := fun _ => by kernel_rfl
theorem gwfld48_0 (g off : Nat) : ∀ w, (Instr.fieldAt 48 (.pointer (some ⟨g, off, none⟩)) 0).run Try.prog w = .ok (.pointer (some ⟨g, off + 0, none⟩)) w := fun _ => by kernel_rfl
theorem gwfld48_1 (g off : Nat) : ∀ w, (Instr.fieldAt 48 (.pointer (some ⟨g, off, none⟩)) 1).run Try.prog w = .ok (.pointer (some ⟨g, off + 1, none⟩)) w := fun _ => by kernel_rfl
theorem gwfld48_2 (g off : Nat) : ∀ w, (Instr.fieldAt 48 (.pointer (some ⟨g, off, none⟩)) 2).run Try.prog w = .ok (.pointer (some ⟨g, off + 2, none⟩)) w := fun _ => by kernel_rfl
theorem gwfld52_0 (g off : Nat) : ∀ w, (Instr.fieldAt 52 (.pointer (some ⟨g, off, none⟩)) 0).run Try.prog w = .ok (.pointer (some ⟨g, off + 0, none⟩)) w := fun _ => by kernel_rfl
theorem gwfld52_1 (g off : Nat) : ∀ w, (Instr.fieldAt 52 (.pointer (some ⟨g, off, none⟩)) 1).run Try.prog w = .ok (.pointer (some ⟨g, off + 1, none⟩)) w := fun _ => by kernel_rfl
theorem gwsiz48 : ∀ w, (sizeOf 48).run Try.prog w = .ok 3 w := fun _ => by kernel_rfl
theorem gwsiz52 : ∀ w, (sizeOf 52).run Try.prog w = .ok 2 w := fun _ => by kernel_rfl
theorem gwzer52 : ∀ w, (zeroValue 52).run Try.prog w = .ok (.agg #[.int .i64 0, .slice none 0 0]) w := fun _ => by kernel_rfl
set_option maxHeartbeats 4000000 in
set_option maxRecDepth 100000 in
theorem LineAll_calls (A0_0 : Option Addr) (c0_0 : Nat) (chs : List S52) (en wt : Int) (w : World) (hr0 : Kd.C k52 w A0_0 chs.length chs) (hc0 : chs.length ≤ c0_0) (hlen : chs.length ≤ 4398046511102) (hz : ∀ x ∈ chs, x.f1.length ≤ 140737488351232) :
    Calls Try.prog 6 #[.agg #[.slice A0_0 chs.length c0_0, .int .i64 en, .int .i64 wt]] w fun e w' => e = .returned (.bool true) ∧ Below w.heap.size w w' := by
  refine gw_start (N := 129) (vs := [.agg #[.slice A0_0 chs.length c0_0, .int .i64 en, .int .i64 wt]]) Try.func6 rfl rfl (by simp) fun a HF HO => ?_
  replace HO : Own w w [] := HO
  refine gw_seq fun K1 hK1 => ?_
  refine wp_region_lit ?_
  refine gw_new HF HO (want_none rfl) rfl (by decide) (op_box rfl (HF.ev rfl)) ?_
  intro g2 a3 w4 HF5 HO6; clear HF HO
  have HO7 : Own w w4 [Chunk.blk g2 (.cells #[.slice A0_0 chs.length c0_0, .int .i64 en, .int .i64 wt] 48 (0, 0))] := HO6
  clear HO6
  refine gw_ev HF5 (want_none rfl) rfl (by decide) (op_assign rfl (ev_c _ _)) ?_
  intro a8 HF9; clear HF5
  refine wpList_nil ?_
  refine gw_nx (hK1 _ _ ?_)
  refine gw_seq fun K10 hK10 => ?_
  refine wp_region_lit ?_
  refine gw_ev HF9 (want_none rfl) rfl (by decide) (op_loadn gwagg48 gwsiz48 rfl (HF9.ev rfl) (HO7.get 0 rfl) rfl rfl) ?_
  intro a11 HF12; clear HF9
  refine gw_call HF12 (want_none rfl) rfl (by decide) (op_callL Try.func22 (by kernel_rfl) rfl rfl (ar_cons (HF12.ev rfl) ar_nil)) (GLine_.open_calls w.heap.size A0_0 c0_0 chs en wt _ (Kd.C_below hr0 HO7.below) hc0 (by (first | omega | ((try have h1_ := tk_b (chs.getD i.toNat z52).f0); (try have h3_ := hz _ (getD_mem (z := z52) chs i.toNat (by (first | omega)))); first | omega | ((try simp only [List.length_append, List.length_take, List.length_drop, List.length_nil, List.length_cons, List.length_set] at *); omega)))) hz) ?_
  rintro e19 w20 ⟨l13, A14, c15, S16, rfl, hb21⟩
  refine ⟨_, rfl, fun a22 HF23 => ?_⟩
  have HO24 := HO7.fresh hb21
  clear HF12 HO7 hb21
  have HO26 : Own w w20 [Chunk.blk l13 (.cells #[.slice A14 chs.length c15, .int .i64 en, .int .i64 wt, .int .i64 0, .int .i64 0, .int .i64 0, .slice none (([] : List Int).length) 0] 83 (0, 0)), Chunk.view k52 S16 A14 chs.length c15 chs, Chunk.row (Kd.int .u8) 5 w.heap.size (fun _ => False) (.slice none (([] : List Int).length) 0) ([] : List Int), Chunk.blk g2 (.cells #[.slice A0_0 chs.length c0_0, .int .i64 en, .int .i64 wt] 48 (0, 0))] := HO24
  clear HO24
  refine gw_ev HF23 (want_none rfl) rfl (by decide) (op_assign rfl (HF23.ev rfl)) ?_
  intro a27 HF28; clear HF23
  refine wpList_nil ?_
  refine gw_nx (hK10 _ _ ?_)
  refine gw_seq fun K29 hK29 => ?_
  refine gw_seq fun K30 hK30 => ?_
  refine wp_region_lit ?_
  refine gw_ev HF28 (want_none rfl) rfl (by decide) (op_move rfl (HF28.ev rfl)) ?_
  intro a31 HF32; clear HF28
  refine gw_ev HF32 (want_none rfl) rfl (by decide) (op_eqp_nil Try.underlying49 rfl (HF32.ev rfl)) ?_
  intro a33 HF34; clear HF32
  refine gw_ev HF34 (want_none rfl) rfl (by decide) (op_move rfl (HF34.ev rfl)) ?_
  intro a35 HF36; clear HF34
  refine gw_call HF36 (want_yes HF36 rfl rfl rfl rfl) rfl (by decide) (op_callL Try.func23 (by kernel_rfl) rfl rfl ar_nil) (GLineAlive_.alive_calls _) ?_
  rintro e37 w38 ⟨rfl, hb39⟩
  refine ⟨_, rfl, fun a40 HF41 => ?_⟩
  have HO42 := HO26.after hb39
  clear HF36 HO26 hb39
  refine gw_ev HF41 (want_yes HF41 rfl rfl rfl rfl) rfl (by decide) (op_not rfl (HF41.ev rfl)) ?_
  intro a44 HF45; clear HF41
  refine gw_ev HF45 (want_none rfl) rfl (by decide) (op_pick_f rfl (HF45.ev rfl) (HF45.ev rfl)) ?_
  intro a46 HF47; clear HF45
  refine wpList_nil ?_
  refine gw_nx (hK30 _ _ ?_)
  refine gw_cond HF47 rfl (fun hb48 => ?_) (fun hb48 => ?_)
  skip
  · cases hb48
  refine wp_skip ?_
  refine gw_nx (hK29 _ _ ?_)
  refine gw_seq fun K49 hK49 => ?_
  refine gw_seq fun K50 hK50 => ?_
  refine wp_region_lit ?_
  refine gw_ev HF47 (want_none rfl) rfl (by decide) (op_field (gwfld48_0 _ _) rfl (HF47.ev rfl)) ?_
  intro a51 HF52; clear HF47
  refine gw_ev HF52 (want_none rfl) rfl (by decide) (op_load1 gwagg46 rfl (HF52.ev rfl) (blk_at (HO42.get 3 rfl) rfl)) ?_
  intro a53 HF54; clear HF52
  refine gw_ev HF54 (want_none rfl) rfl (by decide) (op_len Try.underlying46 rfl (HF54.ev rfl)) ?_
  intro a55 HF56; clear HF54
  refine gw_ev HF56 (want_none rfl) rfl (by decide) (op_gtr rfl (HF56.ev rfl) (ev_c _ _)) ?_
  intro a57 HF58; clear HF56
  refine wpList_nil ?_
  refine gw_nx (hK50 _ _ ?_)
  refine gw_cond HF58 rfl (fun hb59 => ?_) (fun hb59 => ?_)
  · skip
    have HF60 := HF58.subst_ (d := 25) (b := true) rfl hb59
    clear HF58
    (try simp only [decide_eq_true_eq, decide_eq_false_iff_not, Bool.not_eq_true', Bool.not_eq_false', Bool.not_eq_true, Bool.not_eq_false, ne_eq, Decidable.not_not, Int.not_lt, Int.not_le, not_true_eq_false, not_false_eq_true, bne_iff_ne, beq_iff_eq, bne_eq_false_iff_eq, beq_eq_false_iff_ne] at hb59)
    refine gw_seq fun K61 hK61 => ?_
    refine wp_region_lit ?_
    refine gw_ev HF60 (want_none rfl) rfl (by decide) (op_assign rfl (ev_c _ _)) ?_
    intro a62 HF63; clear HF60
    refine wpList_nil ?_
    refine gw_nx (hK61 _ _ ?_)
    refine wp_ret ?_
    refine gw_thr ?_
    refine gw_ret1 HF63 rfl rfl ?_
    exact ⟨rfl, HO42.below⟩
  · skip
    have HF64 := HF58.subst_ (d := 25) (b := false) rfl hb59
    clear HF58
    (try simp only [decide_eq_true_eq, decide_eq_false_iff_not, Bool.not_eq_true', Bool.not_eq_false', Bool.not_eq_true, Bool.not_eq_false, ne_eq, Decidable.not_not, Int.not_lt, Int.not_le, not_true_eq_false, not_false_eq_true, bne_iff_ne, beq_iff_eq, bne_eq_false_iff_eq, beq_eq_false_iff_ne] at hb59)
    refine wp_skip ?_
    refine gw_nx (hK49 _ _ ?_)
    refine gw_seq fun K65 hK65 => ?_
    refine wp_region_lit ?_
    refine gw_ev HF64 (want_none rfl) rfl (by decide) (op_assign rfl (ev_c _ _)) ?_
    intro a66 HF67; clear HF64
    refine wpList_nil ?_
    refine gw_nx (hK65 _ _ ?_)
    refine gw_seq fun K68 hK68 => ?_
    refine gw_seq fun K69 hK69 => ?_
    refine wp_region_lit ?_
    refine gw_ev HF67 (want_none rfl) rfl (by decide) (op_field (gwfld48_0 _ _) rfl (HF67.ev rfl)) ?_
    intro a70 HF71; clear HF67
    refine gw_ev HF71 (want_none rfl) rfl (by decide) (op_load1 gwagg46 rfl (HF71.ev rfl) (blk_at (HO42.get 3 rfl) rfl)) ?_
    intro a72 HF73; clear HF71
    refine gw_ev HF73 (want_none rfl) rfl (by decide) (op_len Try.underlying46 rfl (HF73.ev rfl)) ?_
    intro a74 HF75; clear HF73
    refine gw_ev HF75 (want_none rfl) rfl (by decide) (op_move rfl (ev_c _ _)) ?_
    intro a76 HF77; clear HF75
    refine wpList_nil ?_
    refine gw_nx (hK69 _ _ ?_)
    refine wp_block ?_
    refine gw_loop (fun m_ a_ w_ => ∃ (i : Int) (wh : Int), Fr 129 a_ [(29, .int .i64 i), (4, .int .i64 wh), (1, .pointer (some ⟨g2, 0, none⟩)), (3, .pointer (some ⟨l13, 0, none⟩)), (27, .slice A0_0 chs.length c0_0), (28, .int .i64 (chs.length : Int))] ∧ Own w w_ [Chunk.blk l13 (.cells #[.slice A14 chs.length c15, .int .i64 en, .int .i64 wt, .int .i64 i, .int .i64 wh, .int .i64 wh, .slice none (([] : List Int).length) 0] 83 (0, 0)), Chunk.view k52 S16 A14 chs.length c15 chs, Chunk.row (Kd.int .u8) 5 w.heap.size (fun _ => False) (.slice none (([] : List Int).length) 0) ([] : List Int), Chunk.blk g2 (.cells #[.slice A0_0 chs.length c0_0, .int .i64 en, .int .i64 wt] 48 (0, 0))] ∧ (0 ≤ i ∧ i ≤ chs.length) ∧ (0 ≤ wh ∧ wh ≤ 1000000 * i) ∧ m_ = (chs.length - i.toNat)) ((chs.length - (0 : Int).toNat)) ?_ ?_
    · refine ⟨0, 0, (HF77.pick (t := 29) rfl (HF77.pick (t := 4) rfl (HF77.pick (t := 1) rfl (HF77.pick (t := 3) rfl (HF77.pick (t := 27) rfl (HF77.pick (t := 28) rfl HF77.nil)))))), HO42.sel [0, 1, 2, 3] (by decide), ?_, ?_, rfl⟩
      · (first | omega | ((try have h1_ := tk_b (chs.getD i.toNat z52).f0); (try have h3_ := hz _ (getD_mem (z := z52) chs i.toNat (by (first | omega)))); first | omega | ((try simp only [List.length_append, List.length_take, List.length_drop, List.length_nil, List.length_cons, List.length_set] at *); omega)))
      · (first | omega | ((try have h1_ := tk_b (chs.getD i.toNat z52).f0); (try have h3_ := hz _ (getD_mem (z := z52) chs i.toNat (by (first | omega)))); first | omega | ((try simp only [List.length_append, List.length_take, List.length_drop, List.length_nil, List.length_cons, List.length_set] at *); omega)))
    · rintro m79 a80 w81 ⟨i, wh, HF82, HO83, hi, hw, hm84⟩
      refine gw_seq fun K85 hK85 => ?_
      refine wp_region_lit ?_
      refine gw_ev HF82 (want_none rfl) rfl (by decide) (op_lss rfl (HF82.ev rfl) (HF82.ev rfl)) ?_
      intro a86 HF87; clear HF82
      refine wpList_nil ?_
      refine gw_nx (hK85 _ _ ?_)
      refine gw_seq fun K88 hK88 => ?_
      refine gw_cond HF87 rfl (fun hb89 => ?_) (fun hb89 => ?_)
      · skip
        have HF90 := HF87.subst_ (d := 30) (b := true) rfl hb89
        clear HF87
        (try simp only [decide_eq_true_eq, decide_eq_false_iff_not, Bool.not_eq_true', Bool.not_eq_false', Bool.not_eq_true, Bool.not_eq_false, ne_eq, Decidable.not_not, Int.not_lt, Int.not_le, not_true_eq_false, not_false_eq_true, bne_iff_ne, beq_iff_eq, bne_eq_false_iff_eq, beq_eq_false_iff_ne] at hb89)
        refine wp_skip ?_
        refine gw_nx (hK88 _ _ ?_)
        refine gw_seq fun K91 hK91 => ?_
        refine wp_block ?_
        refine gw_seq fun K92 hK92 => ?_
        refine wp_region_lit ?_
        refine gw_ev HF90 (want_none rfl) rfl (by decide) (op_move rfl (HF90.ev rfl)) ?_
        intro a93 HF94; clear HF90
        obtain ⟨ad95, cs98, hA96, hl99, hK100, hc97⟩ := Kd.C_get hr0 z52 i (by (first | omega | ((try have h1_ := tk_b (chs.getD i.toNat z52).f0); (try have h3_ := hz _ (getD_mem (z := z52) chs i.toNat (by (first | omega)))); first | omega | ((try simp only [List.length_append, List.length_take, List.length_drop, List.length_nil, List.length_cons, List.length_set] at *); omega)))) (by (first | omega | ((try have h1_ := tk_b (chs.getD i.toNat z52).f0); (try have h3_ := hz _ (getD_mem (z := z52) chs i.toNat (by (first | omega)))); first | omega | ((try simp only [List.length_append, List.length_take, List.length_drop, List.length_nil, List.length_cons, List.length_set] at *); omega))))
        obtain ⟨A101, c102, rfl, hl103, hC104⟩ := k52_open hK100
        clear hl99
        refine gw_ev HF94 (want_none rfl) rfl (by decide) (op_index Try.underlying46 gwsiz52 rfl (HF94.ev rfl) (HF94.ev rfl) hA96 (⟨by (first | omega | ((try have h1_ := tk_b (chs.getD i.toNat z52).f0); (try have h3_ := hz _ (getD_mem (z := z52) chs i.toNat (by (first | omega)))); first | omega | ((try simp only [List.length_append, List.length_take, List.length_drop, List.length_nil, List.length_cons, List.length_set] at *); omega))), by (first | omega | ((try have h1_ := tk_b (chs.getD i.toNat z52).f0); (try have h3_ := hz _ (getD_mem (z := z52) chs i.toNat (by (first | omega)))); first | omega | ((try simp only [List.length_append, List.length_take, List.length_drop, List.length_nil, List.length_cons, List.length_set] at *); omega)))⟩)) ?_
        intro a105 HF106; clear HF94
        refine gw_ev HF106 (want_none rfl) rfl (by decide) (op_loadc gwagg52 gwsiz52 rfl (HF106.ev rfl) rfl (cells0 HO83 hc97)) ?_
        intro a107 HF108; clear HF106
        refine gw_new HF108 HO83 (want_none rfl) rfl (by decide) (op_alloc gwzer52 rfl) ?_
        intro g109 a110 w111 HF112 HO113; clear HF108 HO83
        have HO114 : Own w w111 [Chunk.blk g109 (.cells #[.int .i64 0, .slice none 0 0] 52 (0, 0)), Chunk.blk l13 (.cells #[.slice A14 chs.length c15, .int .i64 en, .int .i64 wt, .int .i64 i, .int .i64 wh, .int .i64 wh, .slice none (([] : List Int).length) 0] 83 (0, 0)), Chunk.view k52 S16 A14 chs.length c15 chs, Chunk.row (Kd.int .u8) 5 w.heap.size (fun _ => False) (.slice none (([] : List Int).length) 0) ([] : List Int), Chunk.blk g2 (.cells #[.slice A0_0 chs.length c0_0, .int .i64 en, .int .i64 wt] 48 (0, 0))] := HO113
        clear HO113
        refine gw_ev HF112 (want_none rfl) rfl (by decide) (op_assign rfl (HF112.ev rfl)) ?_
        intro a115 HF116; clear HF112
        refine gw_setn 0 HF116 HO114 rfl (want_none rfl) rfl (op_storen gwsiz52 rfl (HF116.ev rfl) (HF116.ev rfl) (HO114.get 0 rfl) rfl (by simp) (by simp [Value.oneCell'])) ?_
        intro a117 w119 HF118 HO120; clear HF116 HO114
        have HO121 : Own w w119 [Chunk.blk g109 (.cells #[.int .i64 ((chs.getD i.toNat z52).f0), .slice A101 ((chs.getD i.toNat z52).f1.length) c102] 52 (0, 0)), Chunk.blk l13 (.cells #[.slice A14 chs.length c15, .int .i64 en, .int .i64 wt, .int .i64 i, .int .i64 wh, .int .i64 wh, .slice none (([] : List Int).length) 0] 83 (0, 0)), Chunk.view k52 S16 A14 chs.length c15 chs, Chunk.row (Kd.int .u8) 5 w.heap.size (fun _ => False) (.slice none (([] : List Int).length) 0) ([] : List Int), Chunk.blk g2 (.cells #[.slice A0_0 chs.length c0_0, .int .i64 en, .int .i64 wt] 48 (0, 0))] := HO120
        clear HO120
        refine wpList_nil ?_
        refine gw_nx (hK92 _ _ ?_)
        refine gw_seq fun K122 hK122 => ?_
        refine wp_region_lit ?_
        refine gw_ev HF118 (want_none rfl) rfl (by decide) (op_move rfl (HF118.ev rfl)) ?_
        intro a123 HF124; clear HF118
        have HO134 : Own w _ [(Chunk.all [Chunk.blk g109 (.cells #[.int .i64 ((chs.getD i.toNat z52).f0), .slice A101 ((chs.getD i.toNat z52).f1.length) c102] 52 (0, 0)), Chunk.row (Kd.int .u8) 5 w.heap.size (fun _ => False) (.slice none (([] : List Int).length) 0) ([] : List Int), Chunk.blk g2 (.cells #[.slice A0_0 chs.length c0_0, .int .i64 en, .int .i64 wt] 48 (0, 0))]), Chunk.blk l13 (.cells #[.slice A14 chs.length c15, .int .i64 en, .int .i64 wt, .int .i64 i, .int .i64 wh, .int .i64 wh, .slice none (([] : List Int).length) 0] 83 (0, 0)), Chunk.view k52 S16 A14 chs.length c15 chs] := Own.bundle (A := [Chunk.blk g109 (.cells #[.int .i64 ((chs.getD i.toNat z52).f0), .slice A101 ((chs.getD i.toNat z52).f1.length) c102] 52 (0, 0)), Chunk.row (Kd.int .u8) 5 w.heap.size (fun _ => False) (.slice none (([] : List Int).length) 0) ([] : List Int), Chunk.blk g2 (.cells #[.slice A0_0 chs.length c0_0, .int .i64 en, .int .i64 wt] 48 (0, 0))]) (L := [Chunk.blk l13 (.cells #[.slice A14 chs.length c15, .int .i64 en, .int .i64 wt, .int .i64 i, .int .i64 wh, .int .i64 wh, .slice none (([] : List Int).length) 0] 83 (0, 0)), Chunk.view k52 S16 A14 chs.length c15 chs]) (HO121.sel [0, 3, 4, 1, 2] (by decide))
        refine gw_call HF124 (want_none rfl) rfl (by decide) (op_callL Try.func24 (by kernel_rfl) rfl rfl (ar_cons (HF124.ev rfl) (ar_cons (ev_c _ _) ar_nil))) (GLine_.next_calls w _ (Chunk.all [Chunk.blk g109 (.cells #[.int .i64 ((chs.getD i.toNat z52).f0), .slice A101 ((chs.getD i.toNat z52).f1.length) c102] 52 (0, 0)), Chunk.row (Kd.int .u8) 5 w.heap.size (fun _ => False) (.slice none (([] : List Int).length) 0) ([] : List Int), Chunk.blk g2 (.cells #[.slice A0_0 chs.length c0_0, .int .i64 en, .int .i64 wt] 48 (0, 0))]) l13 A14 c15 chs en wt i wh wh none 0 ([] : List Int) S16 1125899906842624 (by (first | omega | ((try have h1_ := tk_b (chs.getD i.toNat z52).f0); (try have h3_ := hz _ (getD_mem (z := z52) chs i.toNat (by (first | omega)))); first | omega | ((try simp only [List.length_append, List.length_take, List.length_drop, List.length_nil, List.length_cons, List.length_set] at *); omega)))) (by (first | omega | ((try have h1_ := tk_b (chs.getD i.toNat z52).f0); (try have h3_ := hz _ (getD_mem (z := z52) chs i.toNat (by (first | omega)))); first | omega | ((try simp only [List.length_append, List.length_take, List.length_drop, List.length_nil, List.length_cons, List.length_set] at *); omega)))) (by (first | omega | ((try have h1_ := tk_b (chs.getD i.toNat z52).f0); (try have h3_ := hz _ (getD_mem (z := z52) chs i.toNat (by (first | omega)))); first | omega | ((try simp only [List.length_append, List.length_take, List.length_drop, List.length_nil, List.length_cons, List.length_set] at *); omega)))) hz HO134) ?_
        rintro e128 w129 ⟨A125, c126, S127, rfl, hb130⟩
        refine ⟨_, rfl, fun a131 HF132 => ?_⟩
        have HO133 : Own w w129 [Chunk.blk g109 (.cells #[.int .i64 ((chs.getD i.toNat z52).f0), .slice A101 ((chs.getD i.toNat z52).f1.length) c102] 52 (0, 0)), Chunk.row (Kd.int .u8) 5 w.heap.size (fun _ => False) (.slice none (([] : List Int).length) 0) ([] : List Int), Chunk.blk g2 (.cells #[.slice A0_0 chs.length c0_0, .int .i64 en, .int .i64 wt] 48 (0, 0)), Chunk.row (Kd.int .u8) 5 w.heap.size S127 (.slice A125 ((nextL chs en wt i wh wh 1125899906842624).b.length) c126) ((nextL chs en wt i wh wh 1125899906842624).b), Chunk.blk l13 (.cells #[.slice A14 chs.length c15, .int .i64 en, .int .i64 wt, .int .i64 ((nextL chs en wt i wh wh 1125899906842624).at_), .int .i64 ((nextL chs en wt i wh wh 1125899906842624).now), .int .i64 ((nextL chs en wt i wh wh 1125899906842624).last), .slice none (([] : List Int).length) 0] 83 (0, 0)), Chunk.view k52 S16 A14 chs.length c15 chs] := Own.unbundle (A := [Chunk.blk g109 (.cells #[.int .i64 ((chs.getD i.toNat z52).f0), .slice A101 ((chs.getD i.toNat z52).f1.length) c102] 52 (0, 0)), Chunk.row (Kd.int .u8) 5 w.heap.size (fun _ => False) (.slice none (([] : List Int).length) 0) ([] : List Int), Chunk.blk g2 (.cells #[.slice A0_0 chs.length c0_0, .int .i64 en, .int .i64 wt] 48 (0, 0))]) (L := [Chunk.row (Kd.int .u8) 5 w.heap.size S127 (.slice A125 ((nextL chs en wt i wh wh 1125899906842624).b.length) c126) ((nextL chs en wt i wh wh 1125899906842624).b), Chunk.blk l13 (.cells #[.slice A14 chs.length c15, .int .i64 en, .int .i64 wt, .int .i64 ((nextL chs en wt i wh wh 1125899906842624).at_), .int .i64 ((nextL chs en wt i wh wh 1125899906842624).now), .int .i64 ((nextL chs en wt i wh wh 1125899906842624).last), .slice none (([] : List Int).length) 0] 83 (0, 0)), Chunk.view k52 S16 A14 chs.length c15 chs]) (hb130.sel [1, 0, 2, 3] (by decide))
        clear HO134
        clear HF124 HO121 hb130
        have HO136 : Own w w129 [Chunk.blk g109 (.cells #[.int .i64 ((chs.getD i.toNat z52).f0), .slice A101 ((chs.getD i.toNat z52).f1.length) c102] 52 (0, 0)), Chunk.row (Kd.int .u8) 5 w.heap.size (fun _ => False) (.slice none (([] : List Int).length) 0) ([] : List Int), Chunk.blk g2 (.cells #[.slice A0_0 chs.length c0_0, .int .i64 en, .int .i64 wt] 48 (0, 0)), Chunk.row (Kd.int .u8) 5 w.heap.size S127 (.slice A125 ((nextL chs en wt i wh wh 1125899906842624).b.length) c126) ((nextL chs en wt i wh wh 1125899906842624).b), Chunk.blk l13 (.cells #[.slice A14 chs.length c15, .int .i64 en, .int .i64 wt, .int .i64 ((nextL chs en wt i wh wh 1125899906842624).at_), .int .i64 ((nextL chs en wt i wh wh 1125899906842624).now), .int .i64 ((nextL chs en wt i wh wh 1125899906842624).last), .slice none (([] : List Int).length) 0] 83 (0, 0)), Chunk.view k52 S16 A14 chs.length c15 chs] := HO133
        clear HO133
        have e_ := next_all chs en wt i wh (by (first | omega | ((try have h1_ := tk_b (chs.getD i.toNat z52).f0); (try have h3_ := hz _ (getD_mem (z := z52) chs i.toNat (by (first | omega)))); first | omega | ((try simp only [List.length_append, List.length_take, List.length_drop, List.length_nil, List.length_cons, List.length_set] at *); omega)))) (by (first | omega | ((try have h1_ := tk_b (chs.getD i.toNat z52).f0); (try have h3_ := hz _ (getD_mem (z := z52) chs i.toNat (by (first | omega)))); first | omega | ((try simp only [List.length_append, List.length_take, List.length_drop, List.length_nil, List.length_cons, List.length_set] at *); omega)))) (by (first | omega | ((try have h1_ := tk_b (chs.getD i.toNat z52).f0); (try have h3_ := hz _ (getD_mem (z := z52) chs i.toNat (by (first | omega)))); first | omega | ((try simp only [List.length_append, List.length_take, List.length_drop, List.length_nil, List.length_cons, List.length_set] at *); omega))))
        rw [e_] at HO136
        (try rw [e_] at HF132)
        refine gw_ev HF132 (want_none rfl) rfl (by decide) (op_move rfl (HF132.ev rfl)) ?_
        intro a137 HF138; clear HF132
        refine gw_ev HF138 (want_none rfl) rfl (by decide) (op_extract rfl (HF138.ev rfl) rfl) ?_
        intro a139 HF140; clear HF138
        refine gw_ev HF140 (want_none rfl) rfl (by decide) (op_extract rfl (HF140.ev rfl) rfl) ?_
        intro a141 HF142; clear HF140
        refine gw_ev HF142 (want_none rfl) rfl (by decide) (op_assign rfl (HF142.ev rfl)) ?_
        intro a143 HF144; clear HF142
        refine gw_ev HF144 (want_none rfl) rfl (by decide) (op_assign rfl (HF144.ev rfl)) ?_
        intro a145 HF146; clear HF144
        refine wpList_nil ?_
        refine gw_nx (hK122 _ _ ?_)
        refine gw_seq fun K147 hK147 => ?_
        refine wp_region_lit ?_
        refine gw_ev HF146 (want_none rfl) rfl (by decide) (op_move rfl (HF146.ev rfl)) ?_
        intro a148 HF149; clear HF146
        refine gw_ev HF149 (want_none rfl) rfl (by decide) (op_field (gwfld52_0 _ _) rfl (HF149.ev rfl)) ?_
        intro a150 HF151; clear HF149
        refine gw_ev HF151 (want_none rfl) rfl (by decide) (op_load1 gwagg3 rfl (HF151.ev rfl) (blk_at (HO136.get 0 rfl) rfl)) ?_
        intro a152 HF153; clear HF151
        refine gw_ev HF153 (want_none rfl) rfl (by decide) (op_max rfl (HF153.ev rfl) (ev_c _ _)) ?_
        intro a154 HF155; clear HF153
        refine gw_ev HF155 (want_none rfl) rfl (by decide) (op_min rfl (HF155.ev rfl) (ev_c _ _)) ?_
        intro a156 HF157; clear HF155
        refine gw_ev HF157 (want_none rfl) rfl (by decide) (op_add rfl (HF157.ev rfl) (HF157.ev rfl) (by (first | omega | ((try have h1_ := tk_b (chs.getD i.toNat z52).f0); (try have h3_ := hz _ (getD_mem (z := z52) chs i.toNat (by (first | omega)))); first | omega | ((try simp only [List.length_append, List.length_take, List.length_drop, List.length_nil, List.length_cons, List.length_set] at *); omega))))) ?_
        intro a158 HF159; clear HF157
        refine gw_ev HF159 (want_none rfl) rfl (by decide) (op_assign rfl (HF159.ev rfl)) ?_
        intro a160 HF161; clear HF159
        refine wpList_nil ?_
        refine gw_nx (hK147 _ _ ?_)
        refine gw_seq fun K162 hK162 => ?_
        refine gw_drawB HO136 (by kernel_rfl) (by kernel_rfl) fun w163 HO164 => ?_
        clear HO136
        refine gq_ev HF161 (want_none rfl) rfl (by decide) (fun wq hq => have HO := HO164.after hq; (op_move rfl (HF161.ev rfl))) ?_
        intro a165 HF166; clear HF161
        refine gq_ev HF166 (want_none rfl) rfl (by decide) (fun wq hq => have HO := HO164.after hq; (op_nei rfl (HF166.ev rfl) (ev_c _ _))) ?_
        intro a167 HF168; clear HF166
        have HF169 := HF168.lit (b := false) (by simp)
        clear HF168
        refine gq_ev HF169 (want_none rfl) rfl (by decide) (fun wq hq => have HO := HO164.after hq; (op_move rfl (HF169.ev rfl))) ?_
        intro a170 HF171; clear HF169
        refine gq_ev HF171 (want_yes HF171 rfl rfl rfl rfl) rfl (by decide) (fun wq hq => have HO := HO164.after hq; (op_move rfl (HF171.ev rfl))) ?_
        intro a172 HF173; clear HF171
        refine gq_ev HF173 (want_yes HF173 rfl rfl rfl rfl) rfl (by decide) (fun wq hq => have HO := HO164.after hq; (op_field (gwfld52_1 _ _) rfl (HF173.ev rfl))) ?_
        intro a174 HF175; clear HF173
        refine gq_ev HF175 (want_yes HF175 rfl rfl rfl rfl) rfl (by decide) (fun wq hq => have HO := HO164.after hq; (op_load1 gwagg26 rfl (HF175.ev rfl) (blk_at (HO.get 0 rfl) rfl))) ?_
        intro a176 HF177; clear HF175
        refine gq_call HF177 (want_yes HF177 rfl rfl rfl rfl) rfl (by decide) (fun wq hq => have HO := HO164.after hq; (op_callL Try.func18 (by kernel_rfl) rfl rfl (ar_cons (HF177.ev rfl) (ar_cons (HF177.ev rfl) ar_nil)))) (fun wq hq => have HO := HO164.after hq; (same_calls A125 c126 ((chs.getD i.toNat z52).f1) A101 c102 ((chs.getD i.toNat z52).f1) _ (Kd.R_reads' (HO.get 3 rfl)).2.2 (row_cap (HO.get 3 rfl)) (Kd.C_below hC104 HO.below) hl103 (by (first | omega | ((try have h1_ := tk_b (chs.getD i.toNat z52).f0); (try have h3_ := hz _ (getD_mem (z := z52) chs i.toNat (by (first | omega)))); first | omega | ((try simp only [List.length_append, List.length_take, List.length_drop, List.length_nil, List.length_cons, List.length_set] at *); omega))))).mono fun e w' h => ⟨h.1, below_then hq h.2⟩) ?_
        intro a178 HF179; clear HF177
        have HF180 := HF179.lit (b := true) (by simp)
        clear HF179
        refine gq_ev HF180 (want_yes HF180 rfl rfl rfl rfl) rfl (by decide) (fun wq hq => have HO := HO164.after hq; (op_not rfl (HF180.ev rfl))) ?_
        intro a181 HF182; clear HF180
        refine gq_ev HF182 (want_none rfl) rfl (by decide) (fun wq hq => have HO := HO164.after hq; (op_pick_f rfl (HF182.ev rfl) (HF182.ev rfl))) ?_
        intro a183 HF184; clear HF182
        refine gq_ev HF184 (want_none rfl) rfl (by decide) (fun wq hq => have HO := HO164.after hq; (op_move rfl (HF184.ev rfl))) ?_
        intro a185 HF186; clear HF184
        refine gq_ev HF186 (want_yes HF186 rfl rfl rfl rfl) rfl (by decide) (fun wq hq => have HO := HO164.after hq; (op_move rfl (HF186.ev rfl))) ?_
        intro a187 HF188; clear HF186
        refine gq_call HF188 (want_yes HF188 rfl rfl rfl rfl) rfl (by decide) (fun wq hq => have HO := HO164.after hq; (op_callL Try.func25 (by kernel_rfl) rfl rfl (ar_cons (HF188.ev rfl) ar_nil))) (fun wq hq => have HO := HO164.after hq; (GLine_.now_calls l13 A14 c15 chs en wt (i + 1) (wh + mn (mx (chs.getD i.toNat z52).f0 0) 1000000) (wh + mn (mx (chs.getD i.toNat z52).f0 0) 1000000) none 0 ([] : List Int) _ (HO.get 4 rfl)).mono fun e w' h => ⟨h.1, below_then hq h.2⟩) ?_
        intro a189 HF190; clear HF188
        refine gq_ev HF190 (want_yes HF190 rfl rfl rfl rfl) rfl (by decide) (fun wq hq => have HO := HO164.after hq; (op_move rfl (HF190.ev rfl))) ?_
        intro a191 HF192; clear HF190
        refine gq_ev HF192 (want_yes HF192 rfl rfl rfl rfl) rfl (by decide) (fun wq hq => have HO := HO164.after hq; (op_nei rfl (HF192.ev rfl) (HF192.ev rfl))) ?_
        intro a193 HF194; clear HF192
        have HF195 := HF194.lit (b := false) (by simp)
        clear HF194
        refine gq_ev HF195 (want_none rfl) rfl (by decide) (fun wq hq => have HO := HO164.after hq; (op_pick_f rfl (HF195.ev rfl) (HF195.ev rfl))) ?_
        intro a196 HF197; clear HF195
        refine gq_ev HF197 (want_none rfl) rfl (by decide) (fun wq hq => have HO := HO164.after hq; (op_move rfl (HF197.ev rfl))) ?_
        intro a198 HF199; clear HF197
        refine gq_ev HF199 (want_yes HF199 rfl rfl rfl rfl) rfl (by decide) (fun wq hq => have HO := HO164.after hq; (op_move rfl (HF199.ev rfl))) ?_
        intro a200 HF201; clear HF199
        refine gq_call HF201 (want_yes HF201 rfl rfl rfl rfl) rfl (by decide) (fun wq hq => have HO := HO164.after hq; (op_callL Try.func26 (by kernel_rfl) rfl rfl (ar_cons (HF201.ev rfl) ar_nil))) (fun wq hq => have HO := HO164.after hq; (GLine_.rest_calls l13 A14 c15 chs en wt (i + 1) (wh + mn (mx (chs.getD i.toNat z52).f0 0) 1000000) (wh + mn (mx (chs.getD i.toNat z52).f0 0) 1000000) none 0 ([] : List Int) _ (HO.get 4 rfl) (by (first | omega | ((try have h1_ := tk_b (chs.getD i.toNat z52).f0); (try have h3_ := hz _ (getD_mem (z := z52) chs i.toNat (by (first | omega)))); first | omega | ((try simp only [List.length_append, List.length_take, List.length_drop, List.length_nil, List.length_cons, List.length_set] at *); omega)))) (by (first | omega | ((try have h1_ := tk_b (chs.getD i.toNat z52).f0); (try have h3_ := hz _ (getD_mem (z := z52) chs i.toNat (by (first | omega)))); first | omega | ((try simp only [List.length_append, List.length_take, List.length_drop, List.length_nil, List.length_cons, List.length_set] at *); omega)))) (by (first | omega | ((try have h1_ := tk_b (chs.getD i.toNat z52).f0); (try have h3_ := hz _ (getD_mem (z := z52) chs i.toNat (by (first | omega)))); first | omega | ((try simp only [List.length_append, List.length_take, List.length_drop, List.length_nil, List.length_cons, List.length_set] at *); omega))))).mono fun e w' h => ⟨h.1, below_then hq h.2⟩) ?_
        intro a202 HF203; clear HF201
        refine gq_ev HF203 (want_yes HF203 rfl rfl rfl rfl) rfl (by decide) (fun wq hq => have HO := HO164.after hq; (op_field (gwfld48_0 _ _) rfl (HF203.ev rfl))) ?_
        intro a204 HF205; clear HF203
        refine gq_ev HF205 (want_yes HF205 rfl rfl rfl rfl) rfl (by decide) (fun wq hq => have HO := HO164.after hq; (op_load1 gwagg46 rfl (HF205.ev rfl) (blk_at (HO.get 2 rfl) rfl))) ?_
        intro a206 HF207; clear HF205
        refine gq_ev HF207 (want_yes HF207 rfl rfl rfl rfl) rfl (by decide) (fun wq hq => have HO := HO164.after hq; (op_len Try.underlying46 rfl (HF207.ev rfl))) ?_
        intro a208 HF209; clear HF207
        refine gq_ev HF209 (want_yes HF209 rfl rfl rfl rfl) rfl (by decide) (fun wq hq => have HO := HO164.after hq; (op_move rfl (HF209.ev rfl))) ?_
        intro a210 HF211; clear HF209
        refine gq_ev HF211 (want_yes HF211 rfl rfl rfl rfl) rfl (by decide) (fun wq hq => have HO := HO164.after hq; (op_sub rfl (HF211.ev rfl) (HF211.ev rfl) (by (first | omega | ((try have h1_ := tk_b (chs.getD i.toNat z52).f0); (try have h3_ := hz _ (getD_mem (z := z52) chs i.toNat (by (first | omega)))); first | omega | ((try simp only [List.length_append, List.length_take, List.length_drop, List.length_nil, List.length_cons, List.length_set] at *); omega)))))) ?_
        intro a212 HF213; clear HF211
        refine gq_ev HF213 (want_yes HF213 rfl rfl rfl rfl) rfl (by decide) (fun wq hq => have HO := HO164.after hq; (op_sub rfl (HF213.ev rfl) (ev_c _ _) (by (first | omega | ((try have h1_ := tk_b (chs.getD i.toNat z52).f0); (try have h3_ := hz _ (getD_mem (z := z52) chs i.toNat (by (first | omega)))); first | omega | ((try simp only [List.length_append, List.length_take, List.length_drop, List.length_nil, List.length_cons, List.length_set] at *); omega)))))) ?_
        intro a214 HF215; clear HF213
        refine gq_ev HF215 (want_yes HF215 rfl rfl rfl rfl) rfl (by decide) (fun wq hq => have HO := HO164.after hq; (op_nei rfl (HF215.ev rfl) (HF215.ev rfl))) ?_
        intro a216 HF217; clear HF215
        have HF218 := HF217.lit (b := false) (by rw [decide_eq_false_iff_not]; omega)
        clear HF217
        refine gq_ev HF218 (want_none rfl) rfl (by decide) (fun wq hq => have HO := HO164.after hq; (op_pick_f rfl (HF218.ev rfl) (HF218.ev rfl))) ?_
        intro a219 HF220; clear HF218
        refine wpQuiet_nil ?_
        intro w221 hq
        have HO222 := HO164.after hq
        clear HO164 hq
        refine gw_nx (hK162 _ _ ?_)
        refine gw_cond HF220 rfl (fun hb223 => ?_) (fun hb223 => ?_)
        skip
        · cases hb223
        refine wp_skip ?_
        refine gw_blk ?_
        refine gw_nx (hK91 _ _ ?_)
        refine wp_region_lit ?_
        refine gw_ev HF220 (want_none rfl) rfl (by decide) (op_add rfl (HF220.ev rfl) (ev_c _ _) (by (first | omega | ((try have h1_ := tk_b (chs.getD i.toNat z52).f0); (try have h3_ := hz _ (getD_mem (z := z52) chs i.toNat (by (first | omega)))); first | omega | ((try simp only [List.length_append, List.length_take, List.length_drop, List.length_nil, List.length_cons, List.length_set] at *); omega))))) ?_
        intro a224 HF225; clear HF220
        refine gw_ev HF225 (want_none rfl) rfl (by decide) (op_move rfl (HF225.ev rfl)) ?_
        intro a226 HF227; clear HF225
        refine wpList_nil ?_
        refine gw_nx ⟨_, ?_, i + 1, (wh + mn (mx (chs.getD i.toNat z52).f0 0) 1000000), (HF227.pick (t := 29) rfl (HF227.pick (t := 4) rfl (HF227.pick (t := 1) rfl (HF227.pick (t := 3) rfl (HF227.pick (t := 27) rfl (HF227.pick (t := 28) rfl HF227.nil)))))), HO222.sel [4, 5, 1, 2] (by decide), ?_, ?_, rfl⟩
        · rw [hm84]; (first | omega | ((try have h1_ := tk_b (chs.getD i.toNat z52).f0); (try have h3_ := hz _ (getD_mem (z := z52) chs i.toNat (by (first | omega)))); first | omega | ((try simp only [List.length_append, List.length_take, List.length_drop, List.length_nil, List.length_cons, List.length_set] at *); omega)))
        · (first | omega | ((try have h1_ := tk_b (chs.getD i.toNat z52).f0); (try have h3_ := hz _ (getD_mem (z := z52) chs i.toNat (by (first | omega)))); first | omega | ((try simp only [List.length_append, List.length_take, List.length_drop, List.length_nil, List.length_cons, List.length_set] at *); omega)))
        · (first | omega | ((try have h1_ := tk_b (chs.getD i.toNat z52).f0); (try have h3_ := hz _ (getD_mem (z := z52) chs i.toNat (by (first | omega)))); first | omega | ((try simp only [List.length_append, List.length_take, List.length_drop, List.length_nil, List.length_cons, List.length_set] at *); omega)))
      · skip
        have HF228 := HF87.subst_ (d := 30) (b := false) rfl hb89
        clear HF87
        (try simp only [decide_eq_true_eq, decide_eq_false_iff_not, Bool.not_eq_true', Bool.not_eq_false', Bool.not_eq_true, Bool.not_eq_false, ne_eq, Decidable.not_not, Int.not_lt, Int.not_le, not_true_eq_false, not_false_eq_true, bne_iff_ne, beq_iff_eq, bne_eq_false_iff_eq, beq_eq_false_iff_ne] at hb89)
        refine wp_exit ?_
        refine gw_thx ?_
        refine gw_thx ?_
        refine gw_in ?_
        refine gw_nx (hK68 _ _ ?_)
        refine gw_seq fun K229 hK229 => ?_
        refine wp_region_lit ?_
        refine gw_ev HF228 (want_none rfl) rfl (by decide) (op_move rfl (HF228.ev rfl)) ?_
        intro a230 HF231; clear HF228
        have HO241 : Own w _ [(Chunk.all [Chunk.row (Kd.int .u8) 5 w.heap.size (fun _ => False) (.slice none (([] : List Int).length) 0) ([] : List Int), Chunk.blk g2 (.cells #[.slice A0_0 chs.length c0_0, .int .i64 en, .int .i64 wt] 48 (0, 0))]), Chunk.blk l13 (.cells #[.slice A14 chs.length c15, .int .i64 en, .int .i64 wt, .int .i64 i, .int .i64 wh, .int .i64 wh, .slice none (([] : List Int).length) 0] 83 (0, 0)), Chunk.view k52 S16 A14 chs.length c15 chs] := Own.bundle (A := [Chunk.row (Kd.int .u8) 5 w.heap.size (fun _ => False) (.slice none (([] : List Int).length) 0) ([] : List Int), Chunk.blk g2 (.cells #[.slice A0_0 chs.length c0_0, .int .i64 en, .int .i64 wt] 48 (0, 0))]) (L := [Chunk.blk l13 (.cells #[.slice A14 chs.length c15, .int .i64 en, .int .i64 wt, .int .i64 i, .int .i64 wh, .int .i64 wh, .slice none (([] : List Int).length) 0] 83 (0, 0)), Chunk.view k52 S16 A14 chs.length c15 chs]) (HO83.sel [2, 3, 0, 1] (by decide))
        refine gw_call HF231 (want_none rfl) rfl (by decide) (op_callL Try.func24 (by kernel_rfl) rfl rfl (ar_cons (HF231.ev rfl) (ar_cons (ev_c _ _) ar_nil))) (GLine_.next_calls w _ (Chunk.all [Chunk.row (Kd.int .u8) 5 w.heap.size (fun _ => False) (.slice none (([] : List Int).length) 0) ([] : List Int), Chunk.blk g2 (.cells #[.slice A0_0 chs.length c0_0, .int .i64 en, .int .i64 wt] 48 (0, 0))]) l13 A14 c15 chs en wt i wh wh none 0 ([] : List Int) S16 2251799813685248 (by (first | omega | ((try have h1_ := tk_b (chs.getD i.toNat z52).f0); (try have h3_ := hz _ (getD_mem (z := z52) chs i.toNat (by (first | omega)))); first | omega | ((try simp only [List.length_append, List.length_take, List.length_drop, List.length_nil, List.length_cons, List.length_set] at *); omega)))) (by (first | omega | ((try have h1_ := tk_b (chs.getD i.toNat z52).f0); (try have h3_ := hz _ (getD_mem (z := z52) chs i.toNat (by (first | omega)))); first | omega | ((try simp only [List.length_append, List.length_take, List.length_drop, List.length_nil, List.length_cons, List.length_set] at *); omega)))) (by (first | omega | ((try have h1_ := tk_b (chs.getD i.toNat z52).f0); (try have h3_ := hz _ (getD_mem (z := z52) chs i.toNat (by (first | omega)))); first | omega | ((try simp only [List.length_append, List.length_take, List.length_drop, List.length_nil, List.length_cons, List.length_set] at *); omega)))) hz HO241) ?_
        rintro e235 w236 ⟨A232, c233, S234, rfl, hb237⟩
        refine ⟨_, rfl, fun a238 HF239 => ?_⟩
        have HO240 : Own w w236 [Chunk.row (Kd.int .u8) 5 w.heap.size (fun _ => False) (.slice none (([] : List Int).length) 0) ([] : List Int), Chunk.blk g2 (.cells #[.slice A0_0 chs.length c0_0, .int .i64 en, .int .i64 wt] 48 (0, 0)), Chunk.row (Kd.int .u8) 5 w.heap.size S234 (.slice A232 ((nextL chs en wt i wh wh 2251799813685248).b.length) c233) ((nextL chs en wt i wh wh 2251799813685248).b), Chunk.blk l13 (.cells #[.slice A14 chs.length c15, .int .i64 en, .int .i64 wt, .int .i64 ((nextL chs en wt i wh wh 2251799813685248).at_), .int .i64 ((nextL chs en wt i wh wh 2251799813685248).now), .int .i64 ((nextL chs en wt i wh wh 2251799813685248).last), .slice none (([] : List Int).length) 0] 83 (0, 0)), Chunk.view k52 S16 A14 chs.length c15 chs] := Own.unbundle (A := [Chunk.row (Kd.int .u8) 5 w.heap.size (fun _ => False) (.slice none (([] : List Int).length) 0) ([] : List Int), Chunk.blk g2 (.cells #[.slice A0_0 chs.length c0_0, .int .i64 en, .int .i64 wt] 48 (0, 0))]) (L := [Chunk.row (Kd.int .u8) 5 w.heap.size S234 (.slice A232 ((nextL chs en wt i wh wh 2251799813685248).b.length) c233) ((nextL chs en wt i wh wh 2251799813685248).b), Chunk.blk l13 (.cells #[.slice A14 chs.length c15, .int .i64 en, .int .i64 wt, .int .i64 ((nextL chs en wt i wh wh 2251799813685248).at_), .int .i64 ((nextL chs en wt i wh wh 2251799813685248).now), .int .i64 ((nextL chs en wt i wh wh 2251799813685248).last), .slice none (([] : List Int).length) 0] 83 (0, 0)), Chunk.view k52 S16 A14 chs.length c15 chs]) (hb237.sel [1, 0, 2, 3] (by decide))
        clear HO241
        clear HF231 HO83 hb237
        have HO243 : Own w w236 [Chunk.row (Kd.int .u8) 5 w.heap.size (fun _ => False) (.slice none (([] : List Int).length) 0) ([] : List Int), Chunk.blk g2 (.cells #[.slice A0_0 chs.length c0_0, .int .i64 en, .int .i64 wt] 48 (0, 0)), Chunk.row (Kd.int .u8) 5 w.heap.size S234 (.slice A232 ((nextL chs en wt i wh wh 2251799813685248).b.length) c233) ((nextL chs en wt i wh wh 2251799813685248).b), Chunk.blk l13 (.cells #[.slice A14 chs.length c15, .int .i64 en, .int .i64 wt, .int .i64 ((nextL chs en wt i wh wh 2251799813685248).at_), .int .i64 ((nextL chs en wt i wh wh 2251799813685248).now), .int .i64 ((nextL chs en wt i wh wh 2251799813685248).last), .slice none (([] : List Int).length) 0] 83 (0, 0)), Chunk.view k52 S16 A14 chs.length c15 chs] := HO240
        clear HO240
        have hs1 := next_st chs en wt i wh wh 2251799813685248 (by (first | omega | ((try have h1_ := tk_b (chs.getD i.toNat z52).f0); (try have h3_ := hz _ (getD_mem (z := z52) chs i.toNat (by (first | omega)))); first | omega | ((try simp only [List.length_append, List.length_take, List.length_drop, List.length_nil, List.length_cons, List.length_set] at *); omega)))) (by (first | omega | ((try have h1_ := tk_b (chs.getD i.toNat z52).f0); (try have h3_ := hz _ (getD_mem (z := z52) chs i.toNat (by (first | omega)))); first | omega | ((try simp only [List.length_append, List.length_take, List.length_drop, List.length_nil, List.length_cons, List.length_set] at *); omega))))
        refine gw_ev HF239 (want_none rfl) rfl (by decide) (op_move rfl (HF239.ev rfl)) ?_
        intro a244 HF245; clear HF239
        refine gw_ev HF245 (want_none rfl) rfl (by decide) (op_extract rfl (HF245.ev rfl) rfl) ?_
        intro a246 HF247; clear HF245
        refine gw_ev HF247 (want_none rfl) rfl (by decide) (op_extract rfl (HF247.ev rfl) rfl) ?_
        intro a248 HF249; clear HF247
        refine gw_ev HF249 (want_none rfl) rfl (by decide) (op_assign rfl (HF249.ev rfl)) ?_
        intro a250 HF251; clear HF249
        refine gw_ev HF251 (want_none rfl) rfl (by decide) (op_assign rfl (HF251.ev rfl)) ?_
        intro a252 HF253; clear HF251
        refine wpList_nil ?_
        refine gw_nx (hK229 _ _ ?_)
        refine gw_seq fun K254 hK254 => ?_
        refine wp_region_lit ?_
        refine gw_ev HF253 (want_none rfl) rfl (by decide) (op_move rfl (HF253.ev rfl)) ?_
        intro a255 HF256; clear HF253
        refine gw_call HF256 (want_none rfl) rfl (by decide) (op_callL Try.func25 (by kernel_rfl) rfl rfl (ar_cons (HF256.ev rfl) ar_nil)) (GLine_.now_calls l13 A14 c15 chs en wt ((nextL chs en wt i wh wh 2251799813685248).at_) ((nextL chs en wt i wh wh 2251799813685248).now) ((nextL chs en wt i wh wh 2251799813685248).last) none 0 ([] : List Int) _ (HO243.get 3 rfl)) ?_
        rintro e257 w258 ⟨rfl, hb259⟩
        refine ⟨_, rfl, fun a260 HF261 => ?_⟩
        have HO262 := HO243.after hb259
        clear HF256 HO243 hb259
        refine gw_ev HF261 (want_none rfl) rfl (by decide) (op_assign rfl (HF261.ev rfl)) ?_
        intro a264 HF265; clear HF261
        refine wpList_nil ?_
        refine gw_nx (hK254 _ _ ?_)
        refine gw_seq fun K266 hK266 => ?_
        refine wp_region_lit ?_
        refine gw_ev HF265 (want_none rfl) rfl (by decide) (op_move rfl (HF265.ev rfl)) ?_
        intro a267 HF268; clear HF265
        have HO278 : Own w _ [(Chunk.all [Chunk.row (Kd.int .u8) 5 w.heap.size (fun _ => False) (.slice none (([] : List Int).length) 0) ([] : List Int), Chunk.blk g2 (.cells #[.slice A0_0 chs.length c0_0, .int .i64 en, .int .i64 wt] 48 (0, 0)), Chunk.row (Kd.int .u8) 5 w.heap.size S234 (.slice A232 ((nextL chs en wt i wh wh 2251799813685248).b.length) c233) ((nextL chs en wt i wh wh 2251799813685248).b)]), Chunk.blk l13 (.cells #[.slice A14 chs.length c15, .int .i64 en, .int .i64 wt, .int .i64 ((nextL chs en wt i wh wh 2251799813685248).at_), .int .i64 ((nextL chs en wt i wh wh 2251799813685248).now), .int .i64 ((nextL chs en wt i wh wh 2251799813685248).last), .slice none (([] : List Int).length) 0] 83 (0, 0)), Chunk.view k52 S16 A14 chs.length c15 chs] := Own.bundle (A := [Chunk.row (Kd.int .u8) 5 w.heap.size (fun _ => False) (.slice none (([] : List Int).length) 0) ([] : List Int), Chunk.blk g2 (.cells #[.slice A0_0 chs.length c0_0, .int .i64 en, .int .i64 wt] 48 (0, 0)), Chunk.row (Kd.int .u8) 5 w.heap.size S234 (.slice A232 ((nextL chs en wt i wh wh 2251799813685248).b.length) c233) ((nextL chs en wt i wh wh 2251799813685248).b)]) (L := [Chunk.blk l13 (.cells #[.slice A14 chs.length c15, .int .i64 en, .int .i64 wt, .int .i64 ((nextL chs en wt i wh wh 2251799813685248).at_), .int .i64 ((nextL chs en wt i wh wh 2251799813685248).now), .int .i64 ((nextL chs en wt i wh wh 2251799813685248).last), .slice none (([] : List Int).length) 0] 83 (0, 0)), Chunk.view k52 S16 A14 chs.length c15 chs]) (HO262.sel [0, 1, 2, 3, 4] (by decide))
        refine gw_call HF268 (want_none rfl) rfl (by decide) (op_callL Try.func24 (by kernel_rfl) rfl rfl (ar_cons (HF268.ev rfl) (ar_cons (ev_c _ _) ar_nil))) (GLine_.next_calls w _ (Chunk.all [Chunk.row (Kd.int .u8) 5 w.heap.size (fun _ => False) (.slice none (([] : List Int).length) 0) ([] : List Int), Chunk.blk g2 (.cells #[.slice A0_0 chs.length c0_0, .int .i64 en, .int .i64 wt] 48 (0, 0)), Chunk.row (Kd.int .u8) 5 w.heap.size S234 (.slice A232 ((nextL chs en wt i wh wh 2251799813685248).b.length) c233) ((nextL chs en wt i wh wh 2251799813685248).b)]) l13 A14 c15 chs en wt ((nextL chs en wt i wh wh 2251799813685248).at_) ((nextL chs en wt i wh wh 2251799813685248).now) ((nextL chs en wt i wh wh 2251799813685248).last) none 0 ([] : List Int) S16 0 (by (first | omega | ((try have h1_ := tk_b (chs.getD i.toNat z52).f0); (try have h3_ := hz _ (getD_mem (z := z52) chs i.toNat (by (first | omega)))); first | omega | ((try simp only [List.length_append, List.length_take, List.length_drop, List.length_nil, List.length_cons, List.length_set] at *); omega)))) (by (first | omega | ((try have h1_ := tk_b (chs.getD i.toNat z52).f0); (try have h3_ := hz _ (getD_mem (z := z52) chs i.toNat (by (first | omega)))); first | omega | ((try simp only [List.length_append, List.length_take, List.length_drop, List.length_nil, List.length_cons, List.length_set] at *); omega)))) (by (first | omega | ((try have h1_ := tk_b (chs.getD i.toNat z52).f0); (try have h3_ := hz _ (getD_mem (z := z52) chs i.toNat (by (first | omega)))); first | omega | ((try simp only [List.length_append, List.length_take, List.length_drop, List.length_nil, List.length_cons, List.length_set] at *); omega)))) hz HO278) ?_
        rintro e272 w273 ⟨A269, c270, S271, rfl, hb274⟩
        refine ⟨_, rfl, fun a275 HF276 => ?_⟩
        have HO277 : Own w w273 [Chunk.row (Kd.int .u8) 5 w.heap.size (fun _ => False) (.slice none (([] : List Int).length) 0) ([] : List Int), Chunk.blk g2 (.cells #[.slice A0_0 chs.length c0_0, .int .i64 en, .int .i64 wt] 48 (0, 0)), Chunk.row (Kd.int .u8) 5 w.heap.size S234 (.slice A232 ((nextL chs en wt i wh wh 2251799813685248).b.length) c233) ((nextL chs en wt i wh wh 2251799813685248).b), Chunk.row (Kd.int .u8) 5 w.heap.size S271 (.slice A269 ((nextL chs en wt ((nextL chs en wt i wh wh 2251799813685248).at_) ((nextL chs en wt i wh wh 2251799813685248).now) ((nextL chs en wt i wh wh 2251799813685248).last) 0).b.length) c270) ((nextL chs en wt ((nextL chs en wt i wh wh 2251799813685248).at_) ((nextL chs en wt i wh wh 2251799813685248).now) ((nextL chs en wt i wh wh 2251799813685248).last) 0).b), Chunk.blk l13 (.cells #[.slice A14 chs.length c15, .int .i64 en, .int .i64 wt, .int .i64 ((nextL chs en wt ((nextL chs en wt i wh wh 2251799813685248).at_) ((nextL chs en wt i wh wh 2251799813685248).now) ((nextL chs en wt i wh wh 2251799813685248).last) 0).at_), .int .i64 ((nextL chs en wt ((nextL chs en wt i wh wh 2251799813685248).at_) ((nextL chs en wt i wh wh 2251799813685248).now) ((nextL chs en wt i wh wh 2251799813685248).last) 0).now), .int .i64 ((nextL chs en wt ((nextL chs en wt i wh wh 2251799813685248).at_) ((nextL chs en wt i wh wh 2251799813685248).now) ((nextL chs en wt i wh wh 2251799813685248).last) 0).last), .slice none (([] : List Int).length) 0] 83 (0, 0)), Chunk.view k52 S16 A14 chs.length c15 chs] := Own.unbundle (A := [Chunk.row (Kd.int .u8) 5 w.heap.size (fun _ => False) (.slice none (([] : List Int).length) 0) ([] : List Int), Chunk.blk g2 (.cells #[.slice A0_0 chs.length c0_0, .int .i64 en, .int .i64 wt] 48 (0, 0)), Chunk.row (Kd.int .u8) 5 w.heap.size S234 (.slice A232 ((nextL chs en wt i wh wh 2251799813685248).b.length) c233) ((nextL chs en wt i wh wh 2251799813685248).b)]) (L := [Chunk.row (Kd.int .u8) 5 w.heap.size S271 (.slice A269 ((nextL chs en wt ((nextL chs en wt i wh wh 2251799813685248).at_) ((nextL chs en wt i wh wh 2251799813685248).now) ((nextL chs en wt i wh wh 2251799813685248).last) 0).b.length) c270) ((nextL chs en wt ((nextL chs en wt i wh wh 2251799813685248).at_) ((nextL chs en wt i wh wh 2251799813685248).now) ((nextL chs en wt i wh wh 2251799813685248).last) 0).b), Chunk.blk l13 (.cells #[.slice A14 chs.length c15, .int .i64 en, .int .i64 wt, .int .i64 ((nextL chs en wt ((nextL chs en wt i wh wh 2251799813685248).at_) ((nextL chs en wt i wh wh 2251799813685248).now) ((nextL chs en wt i wh wh 2251799813685248).last) 0).at_), .int .i64 ((nextL chs en wt ((nextL chs en wt i wh wh 2251799813685248).at_) ((nextL chs en wt i wh wh 2251799813685248).now) ((nextL chs en wt i wh wh 2251799813685248).last) 0).now), .int .i64 ((nextL chs en wt ((nextL chs en wt i wh wh 2251799813685248).at_) ((nextL chs en wt i wh wh 2251799813685248).now) ((nextL chs en wt i wh wh 2251799813685248).last) 0).last), .slice none (([] : List Int).length) 0] 83 (0, 0)), Chunk.view k52 S16 A14 chs.length c15 chs]) (hb274.sel [1, 0, 2, 3] (by decide))
        clear HO278
        clear HF268 HO262 hb274
        have HO280 : Own w w273 [Chunk.row (Kd.int .u8) 5 w.heap.size (fun _ => False) (.slice none (([] : List Int).length) 0) ([] : List Int), Chunk.blk g2 (.cells #[.slice A0_0 chs.length c0_0, .int .i64 en, .int .i64 wt] 48 (0, 0)), Chunk.row (Kd.int .u8) 5 w.heap.size S234 (.slice A232 ((nextL chs en wt i wh wh 2251799813685248).b.length) c233) ((nextL chs en wt i wh wh 2251799813685248).b), Chunk.row (Kd.int .u8) 5 w.heap.size S271 (.slice A269 ((nextL chs en wt ((nextL chs en wt i wh wh 2251799813685248).at_) ((nextL chs en wt i wh wh 2251799813685248).now) ((nextL chs en wt i wh wh 2251799813685248).last) 0).b.length) c270) ((nextL chs en wt ((nextL chs en wt i wh wh 2251799813685248).at_) ((nextL chs en wt i wh wh 2251799813685248).now) ((nextL chs en wt i wh wh 2251799813685248).last) 0).b), Chunk.blk l13 (.cells #[.slice A14 chs.length c15, .int .i64 en, .int .i64 wt, .int .i64 ((nextL chs en wt ((nextL chs en wt i wh wh 2251799813685248).at_) ((nextL chs en wt i wh wh 2251799813685248).now) ((nextL chs en wt i wh wh 2251799813685248).last) 0).at_), .int .i64 ((nextL chs en wt ((nextL chs en wt i wh wh 2251799813685248).at_) ((nextL chs en wt i wh wh 2251799813685248).now) ((nextL chs en wt i wh wh 2251799813685248).last) 0).now), .int .i64 ((nextL chs en wt ((nextL chs en wt i wh wh 2251799813685248).at_) ((nextL chs en wt i wh wh 2251799813685248).now) ((nextL chs en wt i wh wh 2251799813685248).last) 0).last), .slice none (([] : List Int).length) 0] 83 (0, 0)), Chunk.view k52 S16 A14 chs.length c15 chs] := HO277
        clear HO277
        refine gw_ev HF276 (want_none rfl) rfl (by decide) (op_move rfl (HF276.ev rfl)) ?_
        intro a281 HF282; clear HF276
        refine gw_ev HF282 (want_none rfl) rfl (by decide) (op_extract rfl (HF282.ev rfl) rfl) ?_
        intro a283 HF284; clear HF282
        refine gw_ev HF284 (want_none rfl) rfl (by decide) (op_extract rfl (HF284.ev rfl) rfl) ?_
        intro a285 HF286; clear HF284
        refine gw_ev HF286 (want_none rfl) rfl (by decide) (op_assign rfl (HF286.ev rfl)) ?_
        intro a287 HF288; clear HF286
        refine gw_ev HF288 (want_none rfl) rfl (by decide) (op_assign rfl (HF288.ev rfl)) ?_
        intro a289 HF290; clear HF288
        refine wpList_nil ?_
        refine gw_nx (hK266 _ _ ?_)
        refine gw_seq fun K291 hK291 => ?_
        refine gw_seq fun K292 hK292 => ?_
        refine wp_region_lit ?_
        refine gw_ev HF290 (want_none rfl) rfl (by decide) (op_field (gwfld48_1 _ _) rfl (HF290.ev rfl)) ?_
        intro a293 HF294; clear HF290
        refine gw_ev HF294 (want_none rfl) rfl (by decide) (op_load1 gwagg3 rfl (HF294.ev rfl) (blk_at (HO280.get 1 rfl) rfl)) ?_
        intro a295 HF296; clear HF294
        refine wpList_nil ?_
        refine gw_nx (hK292 _ _ ?_)
        refine wp_block ?_
        refine gw_seq fun K297 hK297 => ?_
        refine wp_region_lit ?_
        refine gw_ev HF296 (want_none rfl) rfl (by decide) (op_eqi rfl (HF296.ev rfl) (ev_c _ _)) ?_
        intro a298 HF299; clear HF296
        refine gw_ev HF299 (want_none rfl) rfl (by decide) (op_assign rfl (HF299.ev rfl)) ?_
        intro a300 HF301; clear HF299
        refine wpList_nil ?_
        refine gw_nx (hK297 _ _ ?_)
        refine gw_cond HF301 rfl (fun hb302 => ?_) (fun hb302 => ?_)
        · skip
          have HF303 := HF301.subst_ (d := 86) (b := true) rfl hb302
          clear HF301
          (try simp only [decide_eq_true_eq, decide_eq_false_iff_not, Bool.not_eq_true', Bool.not_eq_false', Bool.not_eq_true, Bool.not_eq_false, ne_eq, Decidable.not_not, Int.not_lt, Int.not_le, not_true_eq_false, not_false_eq_true, bne_iff_ne, beq_iff_eq, bne_eq_false_iff_eq, beq_eq_false_iff_ne] at hb302)
          have ht := tk_b wt; have e1 := next_end chs en wt i wh wh 2251799813685248 2 (by (first | omega | ((try have h1_ := tk_b (chs.getD i.toNat z52).f0); (try have h3_ := hz _ (getD_mem (z := z52) chs i.toNat (by (first | omega)))); first | omega | ((try simp only [List.length_append, List.length_take, List.length_drop, List.length_nil, List.length_cons, List.length_set] at *); omega)))) (by (first | omega | ((try have h1_ := tk_b (chs.getD i.toNat z52).f0); (try have h3_ := hz _ (getD_mem (z := z52) chs i.toNat (by (first | omega)))); first | omega | ((try simp only [List.length_append, List.length_take, List.length_drop, List.length_nil, List.length_cons, List.length_set] at *); omega)))) (by (first | omega | ((try have h1_ := tk_b (chs.getD i.toNat z52).f0); (try have h3_ := hz _ (getD_mem (z := z52) chs i.toNat (by (first | omega)))); first | omega | ((try simp only [List.length_append, List.length_take, List.length_drop, List.length_nil, List.length_cons, List.length_set] at *); omega)))) (by (first | omega | ((try have h1_ := tk_b (chs.getD i.toNat z52).f0); (try have h3_ := hz _ (getD_mem (z := z52) chs i.toNat (by (first | omega)))); first | omega | ((try simp only [List.length_append, List.length_take, List.length_drop, List.length_nil, List.length_cons, List.length_set] at *); omega)))); have hm := mx_big' (a := wh) (b := wh + mn (mx wt 0) 1000000) (by (first | omega | ((try have h1_ := tk_b (chs.getD i.toNat z52).f0); (try have h3_ := hz _ (getD_mem (z := z52) chs i.toNat (by (first | omega)))); first | omega | ((try simp only [List.length_append, List.length_take, List.length_drop, List.length_nil, List.length_cons, List.length_set] at *); omega)))); have e2 := next_end chs en wt i (wh + mn (mx wt 0) 1000000) wh 0 2 (by (first | omega | ((try have h1_ := tk_b (chs.getD i.toNat z52).f0); (try have h3_ := hz _ (getD_mem (z := z52) chs i.toNat (by (first | omega)))); first | omega | ((try simp only [List.length_append, List.length_take, List.length_drop, List.length_nil, List.length_cons, List.length_set] at *); omega)))) (by (first | omega | ((try have h1_ := tk_b (chs.getD i.toNat z52).f0); (try have h3_ := hz _ (getD_mem (z := z52) chs i.toNat (by (first | omega)))); first | omega | ((try simp only [List.length_append, List.length_take, List.length_drop, List.length_nil, List.length_cons, List.length_set] at *); omega)))) (by (first | omega | ((try have h1_ := tk_b (chs.getD i.toNat z52).f0); (try have h3_ := hz _ (getD_mem (z := z52) chs i.toNat (by (first | omega)))); first | omega | ((try simp only [List.length_append, List.length_take, List.length_drop, List.length_nil, List.length_cons, List.length_set] at *); omega)))) (by (first | omega | ((try have h1_ := tk_b (chs.getD i.toNat z52).f0); (try have h3_ := hz _ (getD_mem (z := z52) chs i.toNat (by (first | omega)))); first | omega | ((try simp only [List.length_append, List.length_take, List.length_drop, List.length_nil, List.length_cons, List.length_set] at *); omega))))
          refine gw_seq fun K304 hK304 => ?_
          refine gw_drawB HO280 (by kernel_rfl) (by kernel_rfl) fun w305 HO306 => ?_
          clear HO280
          refine gq_ev HF303 (want_none rfl) rfl (by decide) (fun wq hq => have HO := HO306.after hq; (op_move rfl (HF303.ev rfl))) ?_
          intro a307 HF308; clear HF303
          refine gq_ev HF308 (want_none rfl) rfl (by decide) (fun wq hq => have HO := HO306.after hq; (op_eqi rfl (HF308.ev rfl) (ev_c _ _))) ?_
          intro a309 HF310; clear HF308
          have HF311 := HF310.lit (b := true) (by simp [e1, e2, hm, mx_big])
          clear HF310
          refine gq_ev HF311 (want_none rfl) rfl (by decide) (fun wq hq => have HO := HO306.after hq; (op_move rfl (HF311.ev rfl))) ?_
          intro a312 HF313; clear HF311
          refine gq_ev HF313 (want_yes HF313 rfl rfl rfl rfl) rfl (by decide) (fun wq hq => have HO := HO306.after hq; (op_move rfl (HF313.ev rfl))) ?_
          intro a314 HF315; clear HF313
          refine gq_ev HF315 (want_yes HF315 rfl rfl rfl rfl) rfl (by decide) (fun wq hq => have HO := HO306.after hq; (op_eqi rfl (HF315.ev rfl) (ev_c _ _))) ?_
          intro a316 HF317; clear HF315
          have HF318 := HF317.lit (b := true) (by simp [e1, e2, hm, mx_big])
          clear HF317
          refine gq_ev HF318 (want_none rfl) rfl (by decide) (fun wq hq => have HO := HO306.after hq; (op_pick_t rfl (HF318.ev rfl) (HF318.ev rfl))) ?_
          intro a319 HF320; clear HF318
          refine gq_ev HF320 (want_none rfl) rfl (by decide) (fun wq hq => have HO := HO306.after hq; (op_move rfl (HF320.ev rfl))) ?_
          intro a321 HF322; clear HF320
          refine gq_ev HF322 (want_yes HF322 rfl rfl rfl rfl) rfl (by decide) (fun wq hq => have HO := HO306.after hq; (op_move rfl (HF322.ev rfl))) ?_
          intro a323 HF324; clear HF322
          refine gq_call HF324 (want_yes HF324 rfl rfl rfl rfl) rfl (by decide) (fun wq hq => have HO := HO306.after hq; (op_callL Try.func25 (by kernel_rfl) rfl rfl (ar_cons (HF324.ev rfl) ar_nil))) (fun wq hq => have HO := HO306.after hq; (GLine_.now_calls l13 A14 c15 chs en wt ((nextL chs en wt ((nextL chs en wt i wh wh 2251799813685248).at_) ((nextL chs en wt i wh wh 2251799813685248).now) ((nextL chs en wt i wh wh 2251799813685248).last) 0).at_) ((nextL chs en wt ((nextL chs en wt i wh wh 2251799813685248).at_) ((nextL chs en wt i wh wh 2251799813685248).now) ((nextL chs en wt i wh wh 2251799813685248).last) 0).now) ((nextL chs en wt ((nextL chs en wt i wh wh 2251799813685248).at_) ((nextL chs en wt i wh wh 2251799813685248).now) ((nextL chs en wt i wh wh 2251799813685248).last) 0).last) none 0 ([] : List Int) _ (HO.get 4 rfl)).mono fun e w' h => ⟨h.1, below_then hq h.2⟩) ?_
          intro a325 HF326; clear HF324
          refine gq_ev HF326 (want_yes HF326 rfl rfl rfl rfl) rfl (by decide) (fun wq hq => have HO := HO306.after hq; (op_move rfl (HF326.ev rfl))) ?_
          intro a327 HF328; clear HF326
          refine gq_ev HF328 (want_yes HF328 rfl rfl rfl rfl) rfl (by decide) (fun wq hq => have HO := HO306.after hq; (op_field (gwfld48_2 _ _) rfl (HF328.ev rfl))) ?_
          intro a329 HF330; clear HF328
          refine gq_ev HF330 (want_yes HF330 rfl rfl rfl rfl) rfl (by decide) (fun wq hq => have HO := HO306.after hq; (op_load1 gwagg3 rfl (HF330.ev rfl) (blk_at (HO.get 1 rfl) rfl))) ?_
          intro a331 HF332; clear HF330
          refine gq_ev HF332 (want_yes HF332 rfl rfl rfl rfl) rfl (by decide) (fun wq hq => have HO := HO306.after hq; (op_max rfl (HF332.ev rfl) (ev_c _ _))) ?_
          intro a333 HF334; clear HF332
          refine gq_ev HF334 (want_yes HF334 rfl rfl rfl rfl) rfl (by decide) (fun wq hq => have HO := HO306.after hq; (op_min rfl (HF334.ev rfl) (ev_c _ _))) ?_
          intro a335 HF336; clear HF334
          refine gq_ev HF336 (want_yes HF336 rfl rfl rfl rfl) rfl (by decide) (fun wq hq => have HO := HO306.after hq; (op_add rfl (HF336.ev rfl) (HF336.ev rfl) (by (first | omega | ((try have h1_ := tk_b (chs.getD i.toNat z52).f0); (try have h3_ := hz _ (getD_mem (z := z52) chs i.toNat (by (first | omega)))); first | omega | ((try simp only [List.length_append, List.length_take, List.length_drop, List.length_nil, List.length_cons, List.length_set] at *); omega)))))) ?_
          intro a337 HF338; clear HF336
          refine gq_ev HF338 (want_yes HF338 rfl rfl rfl rfl) rfl (by decide) (fun wq hq => have HO := HO306.after hq; (op_eqi rfl (HF338.ev rfl) (HF338.ev rfl))) ?_
          intro a339 HF340; clear HF338
          have HF341 := HF340.lit (b := true) (by simp [e1, e2, hm, mx_big])
          clear HF340
          refine gq_ev HF341 (want_none rfl) rfl (by decide) (fun wq hq => have HO := HO306.after hq; (op_pick_t rfl (HF341.ev rfl) (HF341.ev rfl))) ?_
          intro a342 HF343; clear HF341
          refine gq_ev HF343 (want_none rfl) rfl (by decide) (fun wq hq => have HO := HO306.after hq; (op_assign rfl (HF343.ev rfl))) ?_
          intro a344 HF345; clear HF343
          refine wpQuiet_nil ?_
          intro w346 hq
          have HO347 := HO306.after hq
          clear HO306 hq
          refine gw_nx (hK304 _ _ ?_)
          refine wp_ret ?_
          refine gw_blr ?_
          refine gw_thr ?_
          refine gw_ret1 HF345 rfl rfl ?_
          exact ⟨rfl, HO347.below⟩
        · skip
          have HF348 := HF301.subst_ (d := 86) (b := false) rfl hb302
          clear HF301
          (try simp only [decide_eq_true_eq, decide_eq_false_iff_not, Bool.not_eq_true', Bool.not_eq_false', Bool.not_eq_true, Bool.not_eq_false, ne_eq, Decidable.not_not, Int.not_lt, Int.not_le, not_true_eq_false, not_false_eq_true, bne_iff_ne, beq_iff_eq, bne_eq_false_iff_eq, beq_eq_false_iff_ne] at hb302)
          refine gw_seq fun K349 hK349 => ?_
          refine wp_region_lit ?_
          refine gw_ev HF348 (want_none rfl) rfl (by decide) (op_eqi rfl (HF348.ev rfl) (ev_c _ _)) ?_
          intro a350 HF351; clear HF348
          refine gw_ev HF351 (want_none rfl) rfl (by decide) (op_assign rfl (HF351.ev rfl)) ?_
          intro a352 HF353; clear HF351
          refine wpList_nil ?_
          refine gw_nx (hK349 _ _ ?_)
          refine gw_cond HF353 rfl (fun hb354 => ?_) (fun hb354 => ?_)
          · skip
            have HF355 := HF353.subst_ (d := 105) (b := true) rfl hb354
            clear HF353
            (try simp only [decide_eq_true_eq, decide_eq_false_iff_not, Bool.not_eq_true', Bool.not_eq_false', Bool.not_eq_true, Bool.not_eq_false, ne_eq, Decidable.not_not, Int.not_lt, Int.not_le, not_true_eq_false, not_false_eq_true, bne_iff_ne, beq_iff_eq, bne_eq_false_iff_eq, beq_eq_false_iff_ne] at hb354)
            have ht := tk_b wt; have e1 := next_end chs en wt i wh wh 2251799813685248 3 (by (first | omega | ((try have h1_ := tk_b (chs.getD i.toNat z52).f0); (try have h3_ := hz _ (getD_mem (z := z52) chs i.toNat (by (first | omega)))); first | omega | ((try simp only [List.length_append, List.length_take, List.length_drop, List.length_nil, List.length_cons, List.length_set] at *); omega)))) (by (first | omega | ((try have h1_ := tk_b (chs.getD i.toNat z52).f0); (try have h3_ := hz _ (getD_mem (z := z52) chs i.toNat (by (first | omega)))); first | omega | ((try simp only [List.length_append, List.length_take, List.length_drop, List.length_nil, List.length_cons, List.length_set] at *); omega)))) (by (first | omega | ((try have h1_ := tk_b (chs.getD i.toNat z52).f0); (try have h3_ := hz _ (getD_mem (z := z52) chs i.toNat (by (first | omega)))); first | omega | ((try simp only [List.length_append, List.length_take, List.length_drop, List.length_nil, List.length_cons, List.length_set] at *); omega)))) (by (first | omega | ((try have h1_ := tk_b (chs.getD i.toNat z52).f0); (try have h3_ := hz _ (getD_mem (z := z52) chs i.toNat (by (first | omega)))); first | omega | ((try simp only [List.length_append, List.length_take, List.length_drop, List.length_nil, List.length_cons, List.length_set] at *); omega)))); have hm := mx_big' (a := wh) (b := wh + mn (mx wt 0) 1000000) (by (first | omega | ((try have h1_ := tk_b (chs.getD i.toNat z52).f0); (try have h3_ := hz _ (getD_mem (z := z52) chs i.toNat (by (first | omega)))); first | omega | ((try simp only [List.length_append, List.length_take, List.length_drop, List.length_nil, List.length_cons, List.length_set] at *); omega)))); have e2 := next_end chs en wt i (wh + mn (mx wt 0) 1000000) wh 0 3 (by (first | omega | ((try have h1_ := tk_b (chs.getD i.toNat z52).f0); (try have h3_ := hz _ (getD_mem (z := z52) chs i.toNat (by (first | omega)))); first | omega | ((try simp only [List.length_append, List.length_take, List.length_drop, List.length_nil, List.length_cons, List.length_set] at *); omega)))) (by (first | omega | ((try have h1_ := tk_b (chs.getD i.toNat z52).f0); (try have h3_ := hz _ (getD_mem (z := z52) chs i.toNat (by (first | omega)))); first | omega | ((try simp only [List.length_append, List.length_take, List.length_drop, List.length_nil, List.length_cons, List.length_set] at *); omega)))) (by (first | omega | ((try have h1_ := tk_b (chs.getD i.toNat z52).f0); (try have h3_ := hz _ (getD_mem (z := z52) chs i.toNat (by (first | omega)))); first | omega | ((try simp only [List.length_append, List.length_take, List.length_drop, List.length_nil, List.length_cons, List.length_set] at *); omega)))) (by (first | omega | ((try have h1_ := tk_b (chs.getD i.toNat z52).f0); (try have h3_ := hz _ (getD_mem (z := z52) chs i.toNat (by (first | omega)))); first | omega | ((try simp only [List.length_append, List.length_take, List.length_drop, List.length_nil, List.length_cons, List.length_set] at *); omega))))
            refine gw_seq fun K356 hK356 => ?_
            refine wp_region_lit ?_
            refine gw_ev HF355 (want_none rfl) rfl (by decide) (op_move rfl (HF355.ev rfl)) ?_
            intro a357 HF358; clear HF355
            refine gw_ev HF358 (want_none rfl) rfl (by decide) (op_eqi rfl (HF358.ev rfl) (ev_c _ _)) ?_
            intro a359 HF360; clear HF358
            have HF361 := HF360.lit (b := true) (by simp [e1, e2, hm, mx_big])
            clear HF360
            refine gw_ev HF361 (want_none rfl) rfl (by decide) (op_move rfl (HF361.ev rfl)) ?_
            intro a362 HF363; clear HF361
            refine gw_ev HF363 (want_yes HF363 rfl rfl rfl rfl) rfl (by decide) (op_move rfl (HF363.ev rfl)) ?_
            intro a364 HF365; clear HF363
            refine gw_ev HF365 (want_yes HF365 rfl rfl rfl rfl) rfl (by decide) (op_eqi rfl (HF365.ev rfl) (ev_c _ _)) ?_
            intro a366 HF367; clear HF365
            have HF368 := HF367.lit (b := true) (by simp [e1, e2, hm, mx_big])
            clear HF367
            refine gw_ev HF368 (want_none rfl) rfl (by decide) (op_pick_t rfl (HF368.ev rfl) (HF368.ev rfl)) ?_
            intro a369 HF370; clear HF368
            refine gw_ev HF370 (want_none rfl) rfl (by decide) (op_move rfl (HF370.ev rfl)) ?_
            intro a371 HF372; clear HF370
            refine gw_ev HF372 (want_yes HF372 rfl rfl rfl rfl) rfl (by decide) (op_move rfl (HF372.ev rfl)) ?_
            intro a373 HF374; clear HF372
            refine gw_call HF374 (want_yes HF374 rfl rfl rfl rfl) rfl (by decide) (op_callL Try.func25 (by kernel_rfl) rfl rfl (ar_cons (HF374.ev rfl) ar_nil)) (GLine_.now_calls l13 A14 c15 chs en wt ((nextL chs en wt ((nextL chs en wt i wh wh 2251799813685248).at_) ((nextL chs en wt i wh wh 2251799813685248).now) ((nextL chs en wt i wh wh 2251799813685248).last) 0).at_) ((nextL chs en wt ((nextL chs en wt i wh wh 2251799813685248).at_) ((nextL chs en wt i wh wh 2251799813685248).now) ((nextL chs en wt i wh wh 2251799813685248).last) 0).now) ((nextL chs en wt ((nextL chs en wt i wh wh 2251799813685248).at_) ((nextL chs en wt i wh wh 2251799813685248).now) ((nextL chs en wt i wh wh 2251799813685248).last) 0).last) none 0 ([] : List Int) _ (HO280.get 4 rfl)) ?_
            rintro e375 w376 ⟨rfl, hb377⟩
            refine ⟨_, rfl, fun a378 HF379 => ?_⟩
            have HO380 := HO280.after hb377
            clear HF374 HO280 hb377
            refine gw_ev HF379 (want_yes HF379 rfl rfl rfl rfl) rfl (by decide) (op_move rfl (HF379.ev rfl)) ?_
            intro a382 HF383; clear HF379
            refine gw_ev HF383 (want_yes HF383 rfl rfl rfl rfl) rfl (by decide) (op_eqi rfl (HF383.ev rfl) (HF383.ev rfl)) ?_
            intro a384 HF385; clear HF383
            have HF386 := HF385.lit (b := true) (by simp [e1, e2, hm, mx_big])
            clear HF385
            refine gw_ev HF386 (want_none rfl) rfl (by decide) (op_pick_t rfl (HF386.ev rfl) (HF386.ev rfl)) ?_
            intro a387 HF388; clear HF386
            refine gw_ev HF388 (want_none rfl) rfl (by decide) (op_assign rfl (HF388.ev rfl)) ?_
            intro a389 HF390; clear HF388
            refine wpList_nil ?_
            refine gw_nx (hK356 _ _ ?_)
            refine wp_ret ?_
            refine gw_blr ?_
            refine gw_thr ?_
            refine gw_ret1 HF390 rfl rfl ?_
            exact ⟨rfl, HO380.below⟩
          · skip
            have HF391 := HF353.subst_ (d := 105) (b := false) rfl hb354
            clear HF353
            (try simp only [decide_eq_true_eq, decide_eq_false_iff_not, Bool.not_eq_true', Bool.not_eq_false', Bool.not_eq_true, Bool.not_eq_false, ne_eq, Decidable.not_not, Int.not_lt, Int.not_le, not_true_eq_false, not_false_eq_true, bne_iff_ne, beq_iff_eq, bne_eq_false_iff_eq, beq_eq_false_iff_ne] at hb354)
            have e1 := next_late chs en wt i wh wh 2251799813685248 (by (first | omega | ((try have h1_ := tk_b (chs.getD i.toNat z52).f0); (try have h3_ := hz _ (getD_mem (z := z52) chs i.toNat (by (first | omega)))); first | omega | ((try simp only [List.length_append, List.length_take, List.length_drop, List.length_nil, List.length_cons, List.length_set] at *); omega)))) (by (first | omega | ((try have h1_ := tk_b (chs.getD i.toNat z52).f0); (try have h3_ := hz _ (getD_mem (z := z52) chs i.toNat (by (first | omega)))); first | omega | ((try simp only [List.length_append, List.length_take, List.length_drop, List.length_nil, List.length_cons, List.length_set] at *); omega)))) (by (first | omega | ((try have h1_ := tk_b (chs.getD i.toNat z52).f0); (try have h3_ := hz _ (getD_mem (z := z52) chs i.toNat (by (first | omega)))); first | omega | ((try simp only [List.length_append, List.length_take, List.length_drop, List.length_nil, List.length_cons, List.length_set] at *); omega)))); have hm := mx_big' (a := wh) (b := 2251799813685248) (by (first | omega | ((try have h1_ := tk_b (chs.getD i.toNat z52).f0); (try have h3_ := hz _ (getD_mem (z := z52) chs i.toNat (by (first | omega)))); first | omega | ((try simp only [List.length_append, List.length_take, List.length_drop, List.length_nil, List.length_cons, List.length_set] at *); omega)))); have e2 := next_late chs en wt i 2251799813685248 wh 0 (by (first | omega | ((try have h1_ := tk_b (chs.getD i.toNat z52).f0); (try have h3_ := hz _ (getD_mem (z := z52) chs i.toNat (by (first | omega)))); first | omega | ((try simp only [List.length_append, List.length_take, List.length_drop, List.length_nil, List.length_cons, List.length_set] at *); omega)))) (by (first | omega | ((try have h1_ := tk_b (chs.getD i.toNat z52).f0); (try have h3_ := hz _ (getD_mem (z := z52) chs i.toNat (by (first | omega)))); first | omega | ((try simp only [List.length_append, List.length_take, List.length_drop, List.length_nil, List.length_cons, List.length_set] at *); omega)))) (by (first | omega | ((try have h1_ := tk_b (chs.getD i.toNat z52).f0); (try have h3_ := hz _ (getD_mem (z := z52) chs i.toNat (by (first | omega)))); first | omega | ((try simp only [List.length_append, List.length_take, List.length_drop, List.length_nil, List.length_cons, List.length_set] at *); omega))))
            refine wp_skip ?_
            refine gw_blk ?_
            refine gw_nx (hK291 _ _ ?_)
            refine gw_seq fun K392 hK392 => ?_
            refine wp_region_lit ?_
            refine gw_ev HF391 (want_none rfl) rfl (by decide) (op_move rfl (HF391.ev rfl)) ?_
            intro a393 HF394; clear HF391
            refine gw_ev HF394 (want_none rfl) rfl (by decide) (op_eqi rfl (HF394.ev rfl) (ev_c _ _)) ?_
            intro a395 HF396; clear HF394
            have HF397 := HF396.lit (b := true) (by simp [e1, e2, hm, mx_big])
            clear HF396
            refine gw_ev HF397 (want_none rfl) rfl (by decide) (op_move rfl (HF397.ev rfl)) ?_
            intro a398 HF399; clear HF397
            refine gw_ev HF399 (want_yes HF399 rfl rfl rfl rfl) rfl (by decide) (op_move rfl (HF399.ev rfl)) ?_
            intro a400 HF401; clear HF399
            refine gw_ev HF401 (want_yes HF401 rfl rfl rfl rfl) rfl (by decide) (op_eqi rfl (HF401.ev rfl) (ev_c _ _)) ?_
            intro a402 HF403; clear HF401
            have HF404 := HF403.lit (b := true) (by simp [e1, e2, hm, mx_big])
            clear HF403
            refine gw_ev HF404 (want_none rfl) rfl (by decide) (op_pick_t rfl (HF404.ev rfl) (HF404.ev rfl)) ?_
            intro a405 HF406; clear HF404
            refine gw_ev HF406 (want_none rfl) rfl (by decide) (op_move rfl (HF406.ev rfl)) ?_
            intro a407 HF408; clear HF406
            refine gw_ev HF408 (want_yes HF408 rfl rfl rfl rfl) rfl (by decide) (op_move rfl (HF408.ev rfl)) ?_
            intro a409 HF410; clear HF408
            refine gw_ev HF410 (want_yes HF410 rfl rfl rfl rfl) rfl (by decide) (op_eqi rfl (HF410.ev rfl) (ev_c _ _)) ?_
            intro a411 HF412; clear HF410
            have HF413 := HF412.lit (b := true) (by simp [e1, e2, hm, mx_big])
            clear HF412
            refine gw_ev HF413 (want_none rfl) rfl (by decide) (op_pick_t rfl (HF413.ev rfl) (HF413.ev rfl)) ?_
            intro a414 HF415; clear HF413
            refine gw_ev HF415 (want_none rfl) rfl (by decide) (op_assign rfl (HF415.ev rfl)) ?_
            intro a416 HF417; clear HF415
            refine wpList_nil ?_
            refine gw_nx (hK392 _ _ ?_)
            refine wp_ret ?_
            refine gw_ret1 HF417 rfl rfl ?_
            exact ⟨rfl, HO280.below⟩
end GLineAll_
open Classical in
noncomputable def colloquylaw10_LineAll.f (l0_0 : List S52) (a0_1 : Int) (a0_2 : Int) : Option Bool := if (l0_0.length ≤ 4398046511102) ∧ (∀ x ∈ l0_0, x.f1.length ≤ 140737488351232) then some true else none
theorem colloquylaw10_LineAll.calls (A0_0 : Option Addr) (c0_0 : Nat) (l0_0 : List S52) (a0_1 : Int) (a0_2 : Int) (r : Bool) (w : World) (hr0_0 : Kd.C k52 w A0_0 l0_0.length l0_0) (hc0_0 : l0_0.length ≤ c0_0) (h : colloquylaw10_LineAll.f l0_0 a0_1 a0_2 = some r) :
    Calls Try.prog 6 #[(.agg #[.slice A0_0 l0_0.length c0_0, .int .i64 a0_1, .int .i64 a0_2])] w fun e w' => e = .returned (.bool r) ∧ Below w.heap.size w w' := by
  unfold colloquylaw10_LineAll.f at h
  split at h
  · cases h; rename_i hh; exact GLineAll_.LineAll_calls A0_0 c0_0 l0_0 a0_1 a0_2 w hr0_0 hc0_0 hh.1 hh.2
  · cases h
end Go.Proofs.Ytbnoedefkbnpjaa.PA
