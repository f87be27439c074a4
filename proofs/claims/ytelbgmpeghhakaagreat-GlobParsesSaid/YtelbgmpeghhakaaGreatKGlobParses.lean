/- The row of the law GlobParses: for every input the call returns true and leaves its arguments as they were. Printed by a program of this session. -/
/- What this claim uses of this session's own texts, put together by a program: GRefK GRefO GRefP HParts PAx1 PAx80 HGlobN HParses GGlobT HOpen StmtGlobParses PureGlobParses LawGlobParses. -/
import Derived.Test.YtelbgmpeghhakaaGreatKGlobParses2
import Derived.Test.YtelbgmpeghhakaaGreatProg
import Derived.Test.YtelbgmpeghhakaaGreatRows
section
namespace Go.Proofs.YtelbgmpeghhakaaGreat.PA
open Go.RowKit Go.Proofs.YtelbgmpeghhakaaGreatW.PrintWords Go.Proofs.YtelbgmpeghhakaaGreatW.PrintLast Go.Proofs.YtelbgmpeghhakaaGreatW.PrintMore
set_option linter.unusedVariables false
set_option linter.unusedSimpArgs false
namespace GRefK_
theorem gwagg26 : ∀ w, (isAgg 26).run Tryz.prog w = .ok true w := fun _ => by kernel_rfl
theorem gwinfo55 : (Tryz.prog.info? 55).map (fun i => (i.zero, i.size, i.bytes)) = some (some (.agg #[.int .u8 0, .int .u8 0]), 2, 2) := by kernel_rfl
theorem gwsiz26 : ∀ w, (sizeOf 26).run Tryz.prog w = .ok 3 w := fun _ => by kernel_rfl
theorem gwzer26 : ∀ w, (zeroValue 26).run Tryz.prog w = .ok (.agg #[.int .i64 0, .slice none 0 0, .slice none 0 0]) w := fun _ => by kernel_rfl
set_option maxHeartbeats 4000000 in
set_option maxRecDepth 100000 in
theorem rclass_walk (s : ByteArray) (p0 : Int) (w : World) (hp0 : 0 ≤ p0 ∧ p0 < s.size) (hs : s.size ≤ 256) :
    Calls Tryz.prog 22 #[.string s, .int .i64 p0] w fun e w' => ∃ (k n ec at_ : Int) (L : List S55) (A : Option Addr) (c : Nat) (S : Nat → Prop), e = .returned (.tuple #[.agg #[.int .i64 k, .slice A L.length c, .slice none 0 0], .int .i64 n, .int .i64 ec, .int .i64 at_]) ∧ Out w w' (fun _ => False) [Chunk.view k55 S A L.length c L] ∧ clsQ s (p0 + 1) k L n ec at_ := by
 obtain ⟨RES, hRES⟩ : ∃ R_ : ClsRes, R_ = clsR s (p0 + 1) := ⟨_, rfl⟩
 refine gw_start (N := 115) (vs := [.string s, J p0]) Tryz.func22 rfl rfl (by simp) fun a HF HO => ?_
 replace HO : Own w w [] := HO
 refine gR fun K1 hK1 => ?_
 refine gw_new HF HO (want_none rfl) rfl (by decide) (op_alloc gwzer26 rfl) ?_
 intro g2 _ w4 H5 O6; clear HF HO
 have O7 : Own w w4 [Bk g2 [J 0, .slice none 0 0, .slice none 0 0] 26] := O6
 clear O6
 refine V H5 (op_assign rfl (ev_c _ _)) ?_
 intro _ H9; clear H5
 refine V H9 (op_assign rfl (ev_c _ _)) ?_
 intro _ H11; clear H9
 refine V H11 (op_assign rfl (ev_c _ _)) ?_
 intro _ H13; clear H11
 refine gE hK1 ?_
 refine gR fun K14 hK14 => ?_
 refine V H13 (op_move rfl (H13.ev rfl)) ?_
 intro _ H16; clear H13
 refine V H16 (op_add rfl (H16.ev rfl) (ev_c _ _) (by omega)) ?_
 intro _ H18; clear H16
 refine V H18 (op_assign rfl (H18.ev rfl)) ?_
 intro _ H20; clear H18
 refine gE hK14 ?_
 refine gR fun K21 hK21 => ?_
 refine V H20 (op_move rfl (H20.ev rfl)) ?_
 intro _ H23; clear H20
 refine V H23 (op_move rfl (H23.ev rfl)) ?_
 intro _ H25; clear H23
 refine V H25 (op_lens Tryz.underlying9 rfl (H25.ev rfl)) ?_
 intro _ H27; clear H25
 refine V H27 (op_lss rfl (H27.ev rfl) (H27.ev rfl)) ?_
 intro _ H29; clear H27
 refine V H29 (op_move rfl (H29.ev rfl)) ?_
 intro _ H31; clear H29
 refine gw_evG H31 rfl rfl rfl rfl (on_t _) rfl (by decide) (fun h_ => (op_move rfl (H31.ev rfl))) ?_
 intro _ H33; clear H31
 refine gw_evG H33 rfl rfl rfl rfl (on_t _) rfl (by decide) (fun h_ => (op_move rfl (H33.ev rfl))) ?_
 intro _ H35; clear H33
 refine gw_evG H35 rfl rfl rfl rfl (on_t _) rfl (by decide) (fun h_ => (op_sidx Tryz.underlying9 rfl (ev_gv (H35.ev rfl) h_) (ev_gv (H35.ev rfl) h_) ⟨by (try simp only [Bool.and_eq_true, Bool.or_eq_true, Bool.and_eq_false_iff, Bool.or_eq_false_iff, Bool.not_and, Bool.not_or, Bool.not_not, decide_eq_true_eq, decide_eq_false_iff_not, Bool.not_eq_true', Bool.not_eq_false', Bool.not_eq_true, Bool.not_eq_false, ne_eq, Decidable.not_not, Int.not_lt, Int.not_le, not_true_eq_false, not_false_eq_true, bne_iff_ne, beq_iff_eq, bne_eq_false_iff_eq, beq_eq_false_iff_ne] at h_); omega, by (try simp only [Bool.and_eq_true, Bool.or_eq_true, Bool.and_eq_false_iff, Bool.or_eq_false_iff, Bool.not_and, Bool.not_or, Bool.not_not, decide_eq_true_eq, decide_eq_false_iff_not, Bool.not_eq_true', Bool.not_eq_false', Bool.not_eq_true, Bool.not_eq_false, ne_eq, Decidable.not_not, Int.not_lt, Int.not_le, not_true_eq_false, not_false_eq_true, bne_iff_ne, beq_iff_eq, bne_eq_false_iff_eq, beq_eq_false_iff_ne] at h_); omega⟩)) ?_
 intro _ H37; clear H35
 refine gw_evG H37 rfl rfl rfl rfl (on_t _) rfl (by decide) (fun h_ => (op_eqi rfl (ev_gv (H37.ev rfl) h_) (ev_c _ _))) ?_
 intro _ H39; clear H37
 refine V H39 (op_pick_and rfl (H39.ev rfl) (fun hp_ => (ev_gv (H39.ev rfl) hp_)) (ev_c _ _)) ?_
 intro _ H41; clear H39
 have H42 := H41.conv (v' := .bool (decide ((rest_ s (p0 + 1)).head? = some 33))) (congrArg Value.bool (bang_at s (p0 + 1) (by omega)))
 clear H41
 refine V H42 (op_assign rfl (H42.ev rfl)) ?_
 intro _ H44; clear H42
 refine gE hK21 ?_
 refine gw_seq fun K45 hK45 => ?_
 refine gR fun K46 hK46 => ?_
 refine V H44 (op_move rfl (H44.ev rfl)) ?_
 intro _ H48; clear H44
 refine gE hK46 ?_
 refine gw_cond H48 rfl (fun hb49 => ?_) (fun hb49 => ?_)
 ·
  have H50 := H48.subst_ (d := 31) (b := true) rfl hb49
  clear H48
  (try simp only [decide_eq_true_eq] at hb49)
  have hbang : (rest_ s (p0 + 1)).head? = some 33 := hb49
  have hb33 : p0 + 1 < s.size := by refine Int.not_le.1 fun h_ => ?_; rw [rest_nil s (p0 + 1) h_] at hbang; cases hbang
  refine wp_region_lit ?_
  refine V H50 (op_move rfl (H50.ev rfl)) ?_
  intro _ H52; clear H50
  refine V H52 (op_add rfl (H52.ev rfl) (ev_c _ _) (by omega)) ?_
  intro _ H54; clear H52
  refine V H54 (op_assign rfl (H54.ev rfl)) ?_
  intro _ H56; clear H54
  refine gE hK45 ?_
  refine gR fun K57 hK57 => ?_
  refine gw_rlit0 k55 (e := 55) H56 O7 (want_none rfl) rfl (by decide) (op_bslice (by kernel_rfl) rfl pt_nil) ?_
  intro A58 S59 _ w61 H62 O63; clear H56 O7
  have O64 : Own w w61 [Chunk.row k55 55 w.heap.size S59 (.slice A58 (([] : List S55).length) 0) ([] : List S55), Bk g2 [J 0, .slice none 0 0, .slice none 0 0] 26] := O63
  clear O63
  refine V H62 (op_assign rfl (H62.ev rfl)) ?_
  intro _ H66; clear H62
  refine gE hK57 ?_
  refine gR fun K67 hK67 => ?_
  refine V H66 (op_assign rfl (ev_c _ _)) ?_
  intro _ H69; clear H66
  refine gE hK67 ?_
  refine wp_block ?_
  refine gw_loop (fun m_ a_ w_ => ∃ (p : Int) (fst : Bool) (rs : List S55) (Aa : Option Addr) (ca : Nat) (Sa : Nat → Prop) (no : Nat), Fr 115 a_ [(1, J p), (10, .bool fst), (9, .slice Aa no ca), (0, .string s), (4, .pointer (some ⟨g2, 0, none⟩)), (8, .bool (decide ((rest_ s (p0 + 1)).head? = some 33)))] ∧ Own w w_ [Chunk.row k55 55 w.heap.size Sa (.slice Aa no ca) rs, Bk g2 [J 0, .slice none 0 0, .slice none 0 0] 26] ∧ (0 ≤ p ∧ p ≤ s.size) ∧ (∀ r_ ∈ rs, 0 ≤ r_.f0 ∧ r_.f0 ≤ 255 ∧ 0 ≤ r_.f1 ∧ r_.f1 ≤ 255) ∧ ((rs.length : Int) ≤ p) ∧ (clsK s RES p fst rs) ∧ (no = rs.length) ∧ m_ = (s.size - p.toNat)) ((s.size - ((p0 + 1) + 1 : Int).toNat)) ?_ ?_
  ·
   refine ⟨(p0 + 1) + 1, true, ([] : List S55), A58, _, _, _, (H69.pick (t := 1) rfl (H69.pick (t := 10) rfl (H69.pick (t := 9) rfl (H69.pick (t := 0) rfl (H69.pick (t := 4) rfl (H69.pick (t := 8) rfl H69.nil)))))), O64.sel [0, 1] (by decide), ?_, ?_, ?_, ?_, ?_, rfl⟩
   ·
    omega
   ·
    intro r_ hr_; simp at hr_
   ·
    show (0 : Int) ≤ _; omega
   ·
    exact ⟨(rest_ s (p0 + 1)).length + 1, by have h_ := congrArg List.length (rest_cons s (p0 + 1) (by omega)); rw [List.length_cons] at h_; omega, by rw [hRES]; unfold clsR; rw [if_pos hbang, show (rest_ s (p0 + 1)).tail = rest_ s ((p0 + 1) + 1) by rw [rest_cons s (p0 + 1) (by omega)]; rfl]⟩
   ·
    rfl
  ·
   rintro m71 _ w73 ⟨p, fst, rs, Aa, ca, Sa, no, H74, O75, hp, hbs, hlen, hD, hno, hm76⟩
   subst hno
   have hrl := rest_len s p hp
   rcases clsK_in hD with ⟨hb1, hR⟩ | ⟨x, q, r, k, hb1, hk, hR⟩
   ·
    refine gw_seq fun K77 hK77 => ?_
    refine wp_block ?_
    refine gw_seq fun K78 hK78 => ?_
    refine gR fun K79 hK79 => ?_
    refine V H74 (op_move rfl (H74.ev rfl)) ?_
    intro _ H81; clear H74
    refine V H81 (op_move rfl (H81.ev rfl)) ?_
    intro _ H83; clear H81
    refine V H83 (op_lens Tryz.underlying9 rfl (H83.ev rfl)) ?_
    intro _ H85; clear H83
    refine V H85 (op_geq rfl (H85.ev rfl) (H85.ev rfl)) ?_
    intro _ H87; clear H85
    refine gE hK79 ?_
    refine gw_cond H87 rfl (fun hb88 => ?_) (fun hb88 => ?_)
    ·
     have H89 := H87.subst_ (d := 38) (b := true) rfl hb88
     clear H87
     (try simp only [decide_eq_true_eq] at hb88)
     refine gR fun K90 hK90 => ?_
     refine V H89 (op_build (cells := #[J 0, .slice none 0 0, .slice none 0 0]) rfl pt_nil (by kernel_rfl)) ?_
     intro _ H92; clear H89
     refine V H92 (op_move rfl (H92.ev rfl)) ?_
     intro _ H94; clear H92
     refine V H94 (op_lens Tryz.underlying9 rfl (H94.ev rfl)) ?_
     intro _ H96; clear H94
     refine gw_setn 1 H96 O75 rfl (want_none rfl) rfl (op_storen gwsiz26 rfl (H96.ev rfl) (H96.ev rfl) (O75.get 1 rfl) rfl (by simp) (by simp [Value.oneCell'])) ?_
     intro _ w99 H98 O100; clear H96 O75
     refine V H98 (op_assign rfl (ev_c _ _)) ?_
     intro _ H102; clear H98
     refine V H102 (op_assign rfl (ev_c _ _)) ?_
     intro _ H104; clear H102
     refine V H104 (op_assign rfl (H104.ev rfl)) ?_
     intro _ H106; clear H104
     refine gE hK90 ?_
     refine wp_ret ?_
     refine gw_thr ?_
     refine gw_blr ?_
     refine gw_thr ?_
     refine gw_thr ?_
     refine gw_blr ?_
     refine gw_rets4 H106 rfl (rv_celln H106 rfl gwagg26 gwsiz26 (O100.get 1 rfl) rfl) (rv_tmp H106 rfl) (rv_tmp H106 rfl) (rv_tmp H106 rfl) ?_
     have hRE : RES = clsR s (p0 + 1) := hRES
     have O107 := O100.row_nil k55 55 w.heap.size
     clear O100
     have O108 : Own w w99 [Chunk.row k55 55 w.heap.size (fun _ => False) (.slice none (([] : List S55).length) 0) ([] : List S55), Chunk.row k55 55 w.heap.size Sa (.slice Aa rs.length ca) rs, Bk g2 [J 0, .slice none 0 0, .slice none 0 0] 26] := O107
     clear O107
     have O109 := O108.row_view 0 rfl
     clear O108
     have O110 : Own w w99 [Chunk.view k55 (fun _ => False) none (([] : List S55).length) 0 ([] : List S55), Chunk.row k55 55 w.heap.size Sa (.slice Aa rs.length ca) rs, Bk g2 [J 0, .slice none 0 0, .slice none 0 0] 26] := O109
     clear O109
     exact ⟨_, _, _, _, _, _, _, _, rfl, (O110.sel [0] (by decide)).out, clsQ_bad (m := 0) (hR.symm.trans hRE) (by decide) (by simp)⟩
    ·
     have H111 := H87.subst_ (d := 38) (b := false) rfl hb88
     clear H87
     (try simp only [decide_eq_false_iff_not, Int.not_le] at hb88)
     refine wp_skip ?_
     refine gw_nx (hK78 _ _ ?_)
     refine gw_seq fun K112 hK112 => ?_
     refine gR fun K113 hK113 => ?_
     refine V H111 (op_move rfl (H111.ev rfl)) ?_
     intro _ H115; clear H111
     refine V H115 (op_move rfl (H115.ev rfl)) ?_
     intro _ H117; clear H115
     refine V H117 (op_sidx Tryz.underlying9 rfl (H117.ev rfl) (H117.ev rfl) ⟨by omega, by omega⟩) ?_
     intro _ H119; clear H117
     refine V H119 (op_eqi rfl (H119.ev rfl) (ev_c _ _)) ?_
     intro _ H121; clear H119
     refine V H121 (op_move rfl (H121.ev rfl)) ?_
     intro _ H123; clear H121
     have H124 := H123.lit (b := false) (by rw [none_92 (by omega) hb1]; rfl)
     clear H123
     refine Vo H124 (wn H124 rfl rfl rfl rfl) ?_
     intro _ H126; clear H124
     refine Vo H126 (wn H126 rfl rfl rfl rfl) ?_
     intro _ H128; clear H126
     refine V H128 (op_pick_f rfl (H128.ev rfl) (ev_c _ _)) ?_
     intro _ H130; clear H128
     refine gE hK113 ?_
     refine gw_cond H130 rfl (fun hb131 => ?_) (fun hb131 => ?_)
     skip
     ·
      cases hb131
     refine wp_skip ?_
     refine gw_nx (hK112 _ _ ?_)
     refine gR fun K132 hK132 => ?_
     refine V H130 (op_move rfl (H130.ev rfl)) ?_
     intro _ H134; clear H130
     refine V H134 (op_assign rfl (H134.ev rfl)) ?_
     intro _ H136; clear H134
     refine gE hK132 ?_
     refine gR fun K137 hK137 => ?_
     refine V H136 (op_move rfl (H136.ev rfl)) ?_
     intro _ H139; clear H136
     refine V H139 (op_move rfl (H139.ev rfl)) ?_
     intro _ H141; clear H139
     refine gw_call H141 (want_none rfl) rfl (by decide) (op_callL Tryz.func23 (by kernel_rfl) rfl rfl (ar_cons (H141.ev rfl) (ar_cons (H141.ev rfl) ar_nil))) (item_is s p _ (by omega) hs 0 0 false (item_none hb1)) ?_
     rintro e142 w143 ⟨rfl, hb144⟩
     refine ⟨_, rfl, fun _ H146 => ?_⟩
     have O147 := O75.after hb144
     clear H141 O75 hb144
     refine V H146 (op_move rfl (H146.ev rfl)) ?_
     intro _ H150; clear H146
     refine V H150 (op_extract rfl (H150.ev rfl) rfl) ?_
     intro _ H152; clear H150
     refine V H152 (op_extract rfl (H152.ev rfl) rfl) ?_
     intro _ H154; clear H152
     refine V H154 (op_extract rfl (H154.ev rfl) rfl) ?_
     intro _ H156; clear H154
     refine V H156 (op_assign rfl (H156.ev rfl)) ?_
     intro _ H158; clear H156
     refine V H158 (op_assign rfl (H158.ev rfl)) ?_
     intro _ H160; clear H158
     refine V H160 (op_assign rfl (H160.ev rfl)) ?_
     intro _ H162; clear H160
     refine gE hK137 ?_
     refine gw_seq fun K163 hK163 => ?_
     refine gR fun K164 hK164 => ?_
     refine V H162 (op_move rfl (H162.ev rfl)) ?_
     intro _ H166; clear H162
     refine V H166 (op_not rfl (H166.ev rfl)) ?_
     intro _ H168; clear H166
     refine gE hK164 ?_
     refine gw_cond H168 rfl (fun hb169 => ?_) (fun hb169 => ?_)
     rotate_left
     ·
      cases hb169
     refine gR fun K170 hK170 => ?_
     refine V H168 (op_build (cells := #[J 0, .slice none 0 0, .slice none 0 0]) rfl pt_nil (by kernel_rfl)) ?_
     intro _ H172; clear H168
     refine V H172 (op_move rfl (H172.ev rfl)) ?_
     intro _ H174; clear H172
     refine V H174 (op_lens Tryz.underlying9 rfl (H174.ev rfl)) ?_
     intro _ H176; clear H174
     refine gw_setn 1 H176 O147 rfl (want_none rfl) rfl (op_storen gwsiz26 rfl (H176.ev rfl) (H176.ev rfl) (O147.get 1 rfl) rfl (by simp) (by simp [Value.oneCell'])) ?_
     intro _ w179 H178 O180; clear H176 O147
     refine V H178 (op_assign rfl (ev_c _ _)) ?_
     intro _ H182; clear H178
     refine V H182 (op_assign rfl (ev_c _ _)) ?_
     intro _ H184; clear H182
     refine V H184 (op_assign rfl (H184.ev rfl)) ?_
     intro _ H186; clear H184
     refine gE hK170 ?_
     refine wp_ret ?_
     refine gw_thr ?_
     refine gw_blr ?_
     refine gw_thr ?_
     refine gw_thr ?_
     refine gw_blr ?_
     refine gw_rets4 H186 rfl (rv_celln H186 rfl gwagg26 gwsiz26 (O180.get 1 rfl) rfl) (rv_tmp H186 rfl) (rv_tmp H186 rfl) (rv_tmp H186 rfl) ?_
     have hRE : RES = clsR s (p0 + 1) := hRES
     have O187 := O180.row_nil k55 55 w.heap.size
     clear O180
     have O188 : Own w w179 [Chunk.row k55 55 w.heap.size (fun _ => False) (.slice none (([] : List S55).length) 0) ([] : List S55), Chunk.row k55 55 w.heap.size Sa (.slice Aa rs.length ca) rs, Bk g2 [J 0, .slice none 0 0, .slice none 0 0] 26] := O187
     clear O187
     have O189 := O188.row_view 0 rfl
     clear O188
     have O190 : Own w w179 [Chunk.view k55 (fun _ => False) none (([] : List S55).length) 0 ([] : List S55), Chunk.row k55 55 w.heap.size Sa (.slice Aa rs.length ca) rs, Bk g2 [J 0, .slice none 0 0, .slice none 0 0] 26] := O189
     clear O189
     exact ⟨_, _, _, _, _, _, _, _, rfl, (O190.sel [0] (by decide)).out, clsQ_bad (m := 0) (hR.symm.trans hRE) (by decide) (by simp)⟩
   ·
    obtain ⟨hrr, hp1, hp2⟩ := item_rest hp hs hb1
    have hps := rest_some hb1
    have hx := byteS_range hb1
    refine gw_seq fun K191 hK191 => ?_
    refine wp_block ?_
    refine gw_seq fun K192 hK192 => ?_
    refine gR fun K193 hK193 => ?_
    refine V H74 (op_move rfl (H74.ev rfl)) ?_
    intro _ H195; clear H74
    refine V H195 (op_move rfl (H195.ev rfl)) ?_
    intro _ H197; clear H195
    refine V H197 (op_lens Tryz.underlying9 rfl (H197.ev rfl)) ?_
    intro _ H199; clear H197
    refine V H199 (op_geq rfl (H199.ev rfl) (H199.ev rfl)) ?_
    intro _ H201; clear H199
    have H202 := H201.lit (b := false) (by rw [decide_eq_false_iff_not]; omega)
    clear H201
    refine gE hK193 ?_
    refine gw_cond H202 rfl (fun hb203 => ?_) (fun hb203 => ?_)
    skip
    ·
     cases hb203
    refine wp_skip ?_
    refine gw_nx (hK192 _ _ ?_)
    refine gw_seq fun K204 hK204 => ?_
    refine gR fun K205 hK205 => ?_
    refine V H202 (op_move rfl (H202.ev rfl)) ?_
    intro _ H207; clear H202
    refine V H207 (op_move rfl (H207.ev rfl)) ?_
    intro _ H209; clear H207
    refine V H209 (op_sidx Tryz.underlying9 rfl (H209.ev rfl) (H209.ev rfl) ⟨by omega, by omega⟩) ?_
    intro _ H211; clear H209
    refine V H211 (op_eqi rfl (H211.ev rfl) (ev_c _ _)) ?_
    intro _ H213; clear H211
    refine V H213 (op_move rfl (H213.ev rfl)) ?_
    intro _ H215; clear H213
    refine gw_evG H215 rfl rfl rfl rfl (on_t _) rfl (by decide) (fun h_ => (op_move rfl (H215.ev rfl))) ?_
    intro _ H217; clear H215
    refine gw_evG H217 rfl rfl rfl rfl (on_t _) rfl (by decide) (fun h_ => (op_not rfl (ev_gv (H217.ev rfl) h_))) ?_
    intro _ H219; clear H217
    refine V H219 (op_pick_and rfl (H219.ev rfl) (fun hp_ => (ev_gv (H219.ev rfl) hp_)) (ev_c _ _)) ?_
    intro _ H221; clear H219
    have H222 := H221.conv (v' := .bool (decide (x = 93 ∧ q = false ∧ fst = false))) (congrArg Value.bool (end_eq fst hp.1 hb1))
    clear H221
    refine gE hK205 ?_
    refine gw_cond H222 rfl (fun hb223 => ?_) (fun hb223 => ?_)
    ·
     have H224 := H222.subst_ (d := 49) (b := true) rfl hb223
     clear H222
     (try simp only [decide_eq_true_eq] at hb223)
     have hend := hb223
     rw [if_pos hend] at hR
     obtain ⟨hn1, hn2⟩ := plain_rest hp.1 hend.1 (hend.2.1 ▸ hb1)
     refine gR fun K225 hK225 => ?_
     refine V H224 (op_move rfl (H224.ev rfl)) ?_
     intro _ H227; clear H224
     refine V H227 (op_move rfl (H227.ev rfl)) ?_
     intro _ H229; clear H227
     refine gw_call H229 (want_none rfl) rfl (by decide) (op_callL Tryz.func37 (by kernel_rfl) rfl rfl (ar_cons (H229.ev rfl) (ar_cons (H229.ev rfl) ar_nil))) (rRanges_walk Aa ca rs (decide ((rest_ s (p0 + 1)).head? = some 33)) _ (Kd.R_reads' (O75.get 0 rfl)).2.2 (row_cap (O75.get 0 rfl)) hbs) ?_
     rintro e233 w234 ⟨A230, c231, S232, rfl, hb235⟩
     refine ⟨_, rfl, fun _ H237 => ?_⟩
     have O238 := O75.fresh hb235
     have hbel239 := O75.below
     clear H229 O75 hb235
     have O240 := O238.lowrow 0 rfl (base' := w.heap.size) (Below.size hbel239)
     refine V H237 (op_build (cells := #[J 1, .slice A230 ((canonP fun c_ => inR rs c_ != (decide ((rest_ s (p0 + 1)).head? = some 33))).length) c231, .slice none 0 0]) rfl (pt_cons (ev_c _ _) (pt_cons (H237.ev rfl) pt_nil)) (by kernel_rfl)) ?_
     intro _ H242; clear H237
     refine V H242 (op_move rfl (H242.ev rfl)) ?_
     intro _ H244; clear H242
     refine V H244 (op_add rfl (H244.ev rfl) (ev_c _ _) (by omega)) ?_
     intro _ H246; clear H244
     refine gw_setn 2 H246 O240 rfl (want_none rfl) rfl (op_storen gwsiz26 rfl (H246.ev rfl) (H246.ev rfl) (O240.get 2 rfl) rfl (by simp) (by simp [Value.oneCell'])) ?_
     intro _ w249 H248 O250; clear H246 O240
     refine V H248 (op_assign rfl (H248.ev rfl)) ?_
     intro _ H252; clear H248
     refine V H252 (op_assign rfl (ev_c _ _)) ?_
     intro _ H254; clear H252
     refine V H254 (op_assign rfl (ev_c _ _)) ?_
     intro _ H256; clear H254
     refine gE hK225 ?_
     refine wp_ret ?_
     refine gw_thr ?_
     refine gw_blr ?_
     refine gw_thr ?_
     refine gw_thr ?_
     refine gw_blr ?_
     refine gw_rets4 H256 rfl (rv_celln H256 rfl gwagg26 gwsiz26 (O250.get 2 rfl) rfl) (rv_tmp H256 rfl) (rv_tmp H256 rfl) (rv_tmp H256 rfl) ?_
     have hRE : RES = clsR s (p0 + 1) := hRES
     have O257 := O250.row_view 0 rfl
     clear O250
     have O258 : Own w w249 [Chunk.view k55 S232 A230 ((canonP fun c_ => inR rs c_ != (decide ((rest_ s (p0 + 1)).head? = some 33))).length) c231 (canonP fun c_ => inR rs c_ != (decide ((rest_ s (p0 + 1)).head? = some 33))), Chunk.row k55 55 w.heap.size Sa (.slice Aa rs.length ca) rs, Bk g2 [J 1, .slice A230 ((canonP fun c_ => inR rs c_ != (decide ((rest_ s (p0 + 1)).head? = some 33))).length) c231, .slice none 0 0] 26] := O257
     clear O257
     exact ⟨_, _, _, _, _, _, _, _, rfl, (O258.sel [0] (by decide)).out, clsQ_ok (by omega) (hR.symm.trans hRE) (by omega)⟩
    ·
     have H259 := H222.subst_ (d := 49) (b := false) rfl hb223
     clear H222
     (try simp only [decide_eq_false_iff_not] at hb223)
     have hnb := hb223
     refine wp_skip ?_
     refine gw_nx (hK204 _ _ ?_)
     refine gR fun K260 hK260 => ?_
     refine V H259 (op_move rfl (H259.ev rfl)) ?_
     intro _ H262; clear H259
     refine V H262 (op_assign rfl (H262.ev rfl)) ?_
     intro _ H264; clear H262
     refine gE hK260 ?_
     refine gR fun K265 hK265 => ?_
     refine V H264 (op_move rfl (H264.ev rfl)) ?_
     intro _ H267; clear H264
     refine V H267 (op_move rfl (H267.ev rfl)) ?_
     intro _ H269; clear H267
     refine gw_call H269 (want_none rfl) rfl (by decide) (op_callL Tryz.func23 (by kernel_rfl) rfl rfl (ar_cons (H269.ev rfl) (ar_cons (H269.ev rfl) ar_nil))) (item_is s p _ (by omega) hs x ((s.size : Int) - r.length) true (item_ok hb1)) ?_
     rintro e270 w271 ⟨rfl, hb272⟩
     refine ⟨_, rfl, fun _ H274 => ?_⟩
     have O275 := O75.after hb272
     clear H269 O75 hb272
     refine V H274 (op_move rfl (H274.ev rfl)) ?_
     intro _ H278; clear H274
     refine V H278 (op_extract rfl (H278.ev rfl) rfl) ?_
     intro _ H280; clear H278
     refine V H280 (op_extract rfl (H280.ev rfl) rfl) ?_
     intro _ H282; clear H280
     refine V H282 (op_extract rfl (H282.ev rfl) rfl) ?_
     intro _ H284; clear H282
     refine V H284 (op_assign rfl (H284.ev rfl)) ?_
     intro _ H286; clear H284
     refine V H286 (op_assign rfl (H286.ev rfl)) ?_
     intro _ H288; clear H286
     refine V H288 (op_assign rfl (H288.ev rfl)) ?_
     intro _ H290; clear H288
     refine gE hK265 ?_
     refine gw_seq fun K291 hK291 => ?_
     refine gR fun K292 hK292 => ?_
     refine V H290 (op_move rfl (H290.ev rfl)) ?_
     intro _ H294; clear H290
     refine V H294 (op_not rfl (H294.ev rfl)) ?_
     intro _ H296; clear H294
     refine gE hK292 ?_
     refine gw_cond H296 rfl (fun hb297 => ?_) (fun hb297 => ?_)
     skip
     ·
      cases hb297
     refine wp_skip ?_
     refine gw_nx (hK291 _ _ ?_)
     refine gR fun K298 hK298 => ?_
     refine V H296 (op_move rfl (H296.ev rfl)) ?_
     intro _ H300; clear H296
     refine V H300 (op_assign rfl (H300.ev rfl)) ?_
     intro _ H302; clear H300
     refine gE hK298 ?_
     refine gR fun K303 hK303 => ?_
     refine V H302 (op_move rfl (H302.ev rfl)) ?_
     intro _ H305; clear H302
     refine V H305 (op_assign rfl (H305.ev rfl)) ?_
     intro _ H307; clear H305
     refine gE hK303 ?_
     refine gw_seq fun K308 hK308 => ?_
     refine gR fun K309 hK309 => ?_
     refine V H307 (op_move rfl (H307.ev rfl)) ?_
     intro _ H311; clear H307
     refine V H311 (op_add rfl (H311.ev rfl) (ev_c _ _) (by omega)) ?_
     intro _ H313; clear H311
     refine V H313 (op_move rfl (H313.ev rfl)) ?_
     intro _ H315; clear H313
     refine V H315 (op_lens Tryz.underlying9 rfl (H315.ev rfl)) ?_
     intro _ H317; clear H315
     refine V H317 (op_lss rfl (H317.ev rfl) (H317.ev rfl)) ?_
     intro _ H319; clear H317
     refine V H319 (op_move rfl (H319.ev rfl)) ?_
     intro _ H321; clear H319
     refine gw_evG H321 rfl rfl rfl rfl (on_t _) rfl (by decide) (fun h_ => (op_move rfl (H321.ev rfl))) ?_
     intro _ H323; clear H321
     refine gw_evG H323 rfl rfl rfl rfl (on_t _) rfl (by decide) (fun h_ => (op_move rfl (H323.ev rfl))) ?_
     intro _ H325; clear H323
     refine gw_evG H325 rfl rfl rfl rfl (on_t _) rfl (by decide) (fun h_ => (op_sidx Tryz.underlying9 rfl (ev_gv (H325.ev rfl) h_) (ev_gv (H325.ev rfl) h_) ⟨by (try simp only [Bool.and_eq_true, Bool.or_eq_true, Bool.and_eq_false_iff, Bool.or_eq_false_iff, Bool.not_and, Bool.not_or, Bool.not_not, decide_eq_true_eq, decide_eq_false_iff_not, Bool.not_eq_true', Bool.not_eq_false', Bool.not_eq_true, Bool.not_eq_false, ne_eq, Decidable.not_not, Int.not_lt, Int.not_le, not_true_eq_false, not_false_eq_true, bne_iff_ne, beq_iff_eq, bne_eq_false_iff_eq, beq_eq_false_iff_ne] at h_); omega, by (try simp only [Bool.and_eq_true, Bool.or_eq_true, Bool.and_eq_false_iff, Bool.or_eq_false_iff, Bool.not_and, Bool.not_or, Bool.not_not, decide_eq_true_eq, decide_eq_false_iff_not, Bool.not_eq_true', Bool.not_eq_false', Bool.not_eq_true, Bool.not_eq_false, ne_eq, Decidable.not_not, Int.not_lt, Int.not_le, not_true_eq_false, not_false_eq_true, bne_iff_ne, beq_iff_eq, bne_eq_false_iff_eq, beq_eq_false_iff_ne] at h_); omega⟩)) ?_
     intro _ H327; clear H325
     refine gw_evG H327 rfl rfl rfl rfl (on_t _) rfl (by decide) (fun h_ => (op_eqi rfl (ev_gv (H327.ev rfl) h_) (ev_c _ _))) ?_
     intro _ H329; clear H327
     refine V H329 (op_pick_and rfl (H329.ev rfl) (fun hp_ => (ev_gv (H329.ev rfl) hp_)) (ev_c _ _)) ?_
     intro _ H331; clear H329
     refine V H331 (op_move rfl (H331.ev rfl)) ?_
     intro _ H333; clear H331
     refine gw_evG H333 rfl rfl rfl rfl (on_t _) rfl (by decide) (fun h_ => (op_move rfl (H333.ev rfl))) ?_
     intro _ H335; clear H333
     refine gw_evG H335 rfl rfl rfl rfl (on_t _) rfl (by decide) (fun h_ => (op_move rfl (H335.ev rfl))) ?_
     intro _ H337; clear H335
     refine gw_evG H337 rfl rfl rfl rfl (on_t _) rfl (by decide) (fun h_ => (op_add rfl (ev_gv (H337.ev rfl) h_) (ev_c _ _) (by (try simp only [Bool.and_eq_true, Bool.or_eq_true, Bool.and_eq_false_iff, Bool.or_eq_false_iff, Bool.not_and, Bool.not_or, Bool.not_not, decide_eq_true_eq, decide_eq_false_iff_not, Bool.not_eq_true', Bool.not_eq_false', Bool.not_eq_true, Bool.not_eq_false, ne_eq, Decidable.not_not, Int.not_lt, Int.not_le, not_true_eq_false, not_false_eq_true, bne_iff_ne, beq_iff_eq, bne_eq_false_iff_eq, beq_eq_false_iff_ne] at h_); omega))) ?_
     intro _ H339; clear H337
     refine gw_evG H339 rfl rfl rfl rfl (on_t _) rfl (by decide) (fun h_ => (op_sidx Tryz.underlying9 rfl (ev_gv (H339.ev rfl) h_) (ev_gv (H339.ev rfl) h_) ⟨by (try simp only [Bool.and_eq_true, Bool.or_eq_true, Bool.and_eq_false_iff, Bool.or_eq_false_iff, Bool.not_and, Bool.not_or, Bool.not_not, decide_eq_true_eq, decide_eq_false_iff_not, Bool.not_eq_true', Bool.not_eq_false', Bool.not_eq_true, Bool.not_eq_false, ne_eq, Decidable.not_not, Int.not_lt, Int.not_le, not_true_eq_false, not_false_eq_true, bne_iff_ne, beq_iff_eq, bne_eq_false_iff_eq, beq_eq_false_iff_ne] at h_); omega, by (try simp only [Bool.and_eq_true, Bool.or_eq_true, Bool.and_eq_false_iff, Bool.or_eq_false_iff, Bool.not_and, Bool.not_or, Bool.not_not, decide_eq_true_eq, decide_eq_false_iff_not, Bool.not_eq_true', Bool.not_eq_false', Bool.not_eq_true, Bool.not_eq_false, ne_eq, Decidable.not_not, Int.not_lt, Int.not_le, not_true_eq_false, not_false_eq_true, bne_iff_ne, beq_iff_eq, bne_eq_false_iff_eq, beq_eq_false_iff_ne] at h_); omega⟩)) ?_
     intro _ H341; clear H339
     refine gw_evG H341 rfl rfl rfl rfl (on_t _) rfl (by decide) (fun h_ => (op_nei rfl (ev_gv (H341.ev rfl) h_) (ev_c _ _))) ?_
     intro _ H343; clear H341
     refine V H343 (op_pick_and rfl (H343.ev rfl) (fun hp_ => (ev_gv (H343.ev rfl) hp_)) (ev_c _ _)) ?_
     intro _ H345; clear H343
     have H346 := H345.conv (v' := .bool (hyph r)) (congrArg Value.bool (hyph_at s ((s.size : Int) - r.length) r (by omega) hrr))
     clear H345
     refine gE hK309 ?_
     refine gw_cond H346 rfl (fun hb347 => ?_) (fun hb347 => ?_)
     ·
      have H348 := H346.subst_ (d := 88) (b := true) rfl hb347
      clear H346
      (try simp only [Bool.not_eq_true] at hb347)
      have hhy : hyph r = true := by assumption
      have hltr : ((s.size : Int) - r.length) < s.size := by refine Int.not_le.1 fun h_ => ?_; have h2_ : r = [] := List.length_eq_zero_iff.1 (by omega); rw [h2_] at hhy; cases hhy
      have hlt2 : ((s.size : Int) - r.length) + 1 < s.size := by refine Int.not_le.1 fun h_ => ?_; obtain ⟨c_, h2_⟩ := List.length_eq_one_iff.1 (show r.length = 1 by omega); rw [h2_] at hhy; cases hhy
      have htl : rest_ s (((s.size : Int) - r.length) + 1) = r.tail := by have h_ := rest_cons s ((s.size : Int) - r.length) (by omega); rw [hrr] at h_; exact (congrArg List.tail h_).symm
      rcases hb2 : byteS (rest_ s (((s.size : Int) - r.length) + 1)) with _ | ⟨hi_, q2, r2⟩
      ·
       rw [if_neg hnb, if_pos hhy, show byteS r.tail = none by rw [← htl]; exact hb2] at hR; simp only at hR
       refine gR fun K349 hK349 => ?_
       refine V H348 (op_move rfl (H348.ev rfl)) ?_
       intro _ H351; clear H348
       refine V H351 (op_move rfl (H351.ev rfl)) ?_
       intro _ H353; clear H351
       refine V H353 (op_add rfl (H353.ev rfl) (ev_c _ _) (by omega)) ?_
       intro _ H355; clear H353
       refine gw_call H355 (want_none rfl) rfl (by decide) (op_callL Tryz.func23 (by kernel_rfl) rfl rfl (ar_cons (H355.ev rfl) (ar_cons (H355.ev rfl) ar_nil))) (item_is s (((s.size : Int) - r.length) + 1) _ (by omega) hs 0 0 false (item_none hb2)) ?_
       rintro e356 w357 ⟨rfl, hb358⟩
       refine ⟨_, rfl, fun _ H360 => ?_⟩
       have O361 := O275.after hb358
       clear H355 O275 hb358
       refine V H360 (op_move rfl (H360.ev rfl)) ?_
       intro _ H364; clear H360
       refine V H364 (op_extract rfl (H364.ev rfl) rfl) ?_
       intro _ H366; clear H364
       refine V H366 (op_extract rfl (H366.ev rfl) rfl) ?_
       intro _ H368; clear H366
       refine V H368 (op_extract rfl (H368.ev rfl) rfl) ?_
       intro _ H370; clear H368
       refine V H370 (op_assign rfl (H370.ev rfl)) ?_
       intro _ H372; clear H370
       refine V H372 (op_assign rfl (H372.ev rfl)) ?_
       intro _ H374; clear H372
       refine V H374 (op_assign rfl (H374.ev rfl)) ?_
       intro _ H376; clear H374
       refine gE hK349 ?_
       refine gw_seq fun K377 hK377 => ?_
       refine gR fun K378 hK378 => ?_
       refine V H376 (op_move rfl (H376.ev rfl)) ?_
       intro _ H380; clear H376
       refine V H380 (op_not rfl (H380.ev rfl)) ?_
       intro _ H382; clear H380
       refine gE hK378 ?_
       refine gw_cond H382 rfl (fun hb383 => ?_) (fun hb383 => ?_)
       rotate_left
       ·
        cases hb383
       refine gR fun K384 hK384 => ?_
       refine V H382 (op_build (cells := #[J 0, .slice none 0 0, .slice none 0 0]) rfl pt_nil (by kernel_rfl)) ?_
       intro _ H386; clear H382
       refine V H386 (op_move rfl (H386.ev rfl)) ?_
       intro _ H388; clear H386
       refine V H388 (op_lens Tryz.underlying9 rfl (H388.ev rfl)) ?_
       intro _ H390; clear H388
       refine gw_setn 1 H390 O361 rfl (want_none rfl) rfl (op_storen gwsiz26 rfl (H390.ev rfl) (H390.ev rfl) (O361.get 1 rfl) rfl (by simp) (by simp [Value.oneCell'])) ?_
       intro _ w393 H392 O394; clear H390 O361
       refine V H392 (op_assign rfl (ev_c _ _)) ?_
       intro _ H396; clear H392
       refine V H396 (op_assign rfl (ev_c _ _)) ?_
       intro _ H398; clear H396
       refine V H398 (op_assign rfl (H398.ev rfl)) ?_
       intro _ H400; clear H398
       refine gE hK384 ?_
       refine wp_ret ?_
       refine gw_thr ?_
       refine gw_thr ?_
       refine gw_blr ?_
       refine gw_thr ?_
       refine gw_thr ?_
       refine gw_blr ?_
       refine gw_rets4 H400 rfl (rv_celln H400 rfl gwagg26 gwsiz26 (O394.get 1 rfl) rfl) (rv_tmp H400 rfl) (rv_tmp H400 rfl) (rv_tmp H400 rfl) ?_
       have hRE : RES = clsR s (p0 + 1) := hRES
       have O401 := O394.row_nil k55 55 w.heap.size
       clear O394
       have O402 : Own w w393 [Chunk.row k55 55 w.heap.size (fun _ => False) (.slice none (([] : List S55).length) 0) ([] : List S55), Chunk.row k55 55 w.heap.size Sa (.slice Aa rs.length ca) rs, Bk g2 [J 0, .slice none 0 0, .slice none 0 0] 26] := O401
       clear O401
       have O403 := O402.row_view 0 rfl
       clear O402
       have O404 : Own w w393 [Chunk.view k55 (fun _ => False) none (([] : List S55).length) 0 ([] : List S55), Chunk.row k55 55 w.heap.size Sa (.slice Aa rs.length ca) rs, Bk g2 [J 0, .slice none 0 0, .slice none 0 0] 26] := O403
       clear O403
       exact ⟨_, _, _, _, _, _, _, _, rfl, (O404.sel [0] (by decide)).out, clsQ_bad (m := 0) (hR.symm.trans hRE) (by decide) (by simp)⟩
      ·
       obtain ⟨hrr2, hp3, hp4⟩ := item_rest (by omega) hs hb2
       have hx2 := byteS_range hb2
       have hr2l := byteS_lt hb2
       rw [if_neg hnb, if_pos hhy, show byteS r.tail = some (hi_, q2, r2) by rw [← htl]; exact hb2] at hR; simp only at hR
       refine gR fun K405 hK405 => ?_
       refine V H348 (op_move rfl (H348.ev rfl)) ?_
       intro _ H407; clear H348
       refine V H407 (op_move rfl (H407.ev rfl)) ?_
       intro _ H409; clear H407
       refine V H409 (op_add rfl (H409.ev rfl) (ev_c _ _) (by omega)) ?_
       intro _ H411; clear H409
       refine gw_call H411 (want_none rfl) rfl (by decide) (op_callL Tryz.func23 (by kernel_rfl) rfl rfl (ar_cons (H411.ev rfl) (ar_cons (H411.ev rfl) ar_nil))) (item_is s (((s.size : Int) - r.length) + 1) _ (by omega) hs hi_ ((s.size : Int) - r2.length) true (item_ok hb2)) ?_
       rintro e412 w413 ⟨rfl, hb414⟩
       refine ⟨_, rfl, fun _ H416 => ?_⟩
       have O417 := O275.after hb414
       clear H411 O275 hb414
       refine V H416 (op_move rfl (H416.ev rfl)) ?_
       intro _ H420; clear H416
       refine V H420 (op_extract rfl (H420.ev rfl) rfl) ?_
       intro _ H422; clear H420
       refine V H422 (op_extract rfl (H422.ev rfl) rfl) ?_
       intro _ H424; clear H422
       refine V H424 (op_extract rfl (H424.ev rfl) rfl) ?_
       intro _ H426; clear H424
       refine V H426 (op_assign rfl (H426.ev rfl)) ?_
       intro _ H428; clear H426
       refine V H428 (op_assign rfl (H428.ev rfl)) ?_
       intro _ H430; clear H428
       refine V H430 (op_assign rfl (H430.ev rfl)) ?_
       intro _ H432; clear H430
       refine gE hK405 ?_
       refine gw_seq fun K433 hK433 => ?_
       refine gR fun K434 hK434 => ?_
       refine V H432 (op_move rfl (H432.ev rfl)) ?_
       intro _ H436; clear H432
       refine V H436 (op_not rfl (H436.ev rfl)) ?_
       intro _ H438; clear H436
       refine gE hK434 ?_
       refine gw_cond H438 rfl (fun hb439 => ?_) (fun hb439 => ?_)
       skip
       ·
        cases hb439
       refine wp_skip ?_
       refine gw_nx (hK433 _ _ ?_)
       refine gR fun K440 hK440 => ?_
       refine V H438 (op_move rfl (H438.ev rfl)) ?_
       intro _ H442; clear H438
       refine V H442 (op_assign rfl (H442.ev rfl)) ?_
       intro _ H444; clear H442
       refine gE hK440 ?_
       refine wp_region_lit ?_
       refine V H444 (op_move rfl (H444.ev rfl)) ?_
       intro _ H446; clear H444
       refine V H446 (op_assign rfl (H446.ev rfl)) ?_
       intro _ H448; clear H446
       refine gE hK308 ?_
       refine gw_seq fun K449 hK449 => ?_
       refine gR fun K450 hK450 => ?_
       refine V H448 (op_move rfl (H448.ev rfl)) ?_
       intro _ H452; clear H448
       refine V H452 (op_move rfl (H452.ev rfl)) ?_
       intro _ H454; clear H452
       refine V H454 (op_lss rfl (H454.ev rfl) (H454.ev rfl)) ?_
       intro _ H456; clear H454
       refine gE hK450 ?_
       refine gw_cond H456 rfl (fun hb457 => ?_) (fun hb457 => ?_)
       ·
        have H458 := H456.subst_ (d := 106) (b := true) rfl hb457
        clear H456
        (try simp only [decide_eq_true_eq] at hb457)
        rw [if_pos (by assumption)] at hR
        refine gR fun K459 hK459 => ?_
        refine V H458 (op_build (cells := #[J 0, .slice none 0 0, .slice none 0 0]) rfl pt_nil (by kernel_rfl)) ?_
        intro _ H461; clear H458
        refine V H461 (op_move rfl (H461.ev rfl)) ?_
        intro _ H463; clear H461
        refine gw_setn 1 H463 O417 rfl (want_none rfl) rfl (op_storen gwsiz26 rfl (H463.ev rfl) (H463.ev rfl) (O417.get 1 rfl) rfl (by simp) (by simp [Value.oneCell'])) ?_
        intro _ w466 H465 O467; clear H463 O417
        refine V H465 (op_assign rfl (ev_c _ _)) ?_
        intro _ H469; clear H465
        refine V H469 (op_assign rfl (ev_c _ _)) ?_
        intro _ H471; clear H469
        refine V H471 (op_assign rfl (H471.ev rfl)) ?_
        intro _ H473; clear H471
        refine gE hK459 ?_
        refine wp_ret ?_
        refine gw_thr ?_
        refine gw_blr ?_
        refine gw_thr ?_
        refine gw_thr ?_
        refine gw_blr ?_
        refine gw_rets4 H473 rfl (rv_celln H473 rfl gwagg26 gwsiz26 (O467.get 1 rfl) rfl) (rv_tmp H473 rfl) (rv_tmp H473 rfl) (rv_tmp H473 rfl) ?_
        have hRE : RES = clsR s (p0 + 1) := hRES
        have O474 := O467.row_nil k55 55 w.heap.size
        clear O467
        have O475 : Own w w466 [Chunk.row k55 55 w.heap.size (fun _ => False) (.slice none (([] : List S55).length) 0) ([] : List S55), Chunk.row k55 55 w.heap.size Sa (.slice Aa rs.length ca) rs, Bk g2 [J 0, .slice none 0 0, .slice none 0 0] 26] := O474
        clear O474
        have O476 := O475.row_view 0 rfl
        clear O475
        have O477 : Own w w466 [Chunk.view k55 (fun _ => False) none (([] : List S55).length) 0 ([] : List S55), Chunk.row k55 55 w.heap.size Sa (.slice Aa rs.length ca) rs, Bk g2 [J 0, .slice none 0 0, .slice none 0 0] 26] := O476
        clear O476
        exact ⟨_, _, _, _, _, _, _, _, rfl, (O477.sel [0] (by decide)).out, clsQ_bad (m := (rest_ s p).length) (hR.symm.trans hRE) (by decide) (by omega)⟩
       ·
        have H478 := H456.subst_ (d := 106) (b := false) rfl hb457
        clear H456
        (try simp only [decide_eq_false_iff_not, Int.not_lt] at hb457)
        rw [if_neg (by omega)] at hR
        refine wp_skip ?_
        refine gw_nx (hK449 _ _ ?_)
        refine wp_region_lit ?_
        refine V H478 (op_move rfl (H478.ev rfl)) ?_
        intro _ H480; clear H478
        refine V H480 (op_move rfl (H480.ev rfl)) ?_
        intro _ H482; clear H480
        refine V H482 (op_move rfl (H482.ev rfl)) ?_
        intro _ H484; clear H482
        refine V H484 (op_build (cells := #[.int .u8 x, .int .u8 hi_]) rfl (pt_cons (H484.ev rfl) (pt_cons (H484.ev rfl) pt_nil)) (by kernel_rfl)) ?_
        intro _ H486; clear H484
        refine gw_news (O := .cells #[.int .u8 x, .int .u8 hi_] 55 (0, 0)) (n := 1) H486 O417 (want_none rfl) rfl (by decide) (op_bslice (by kernel_rfl) rfl (pt_cons (H486.ev rfl) pt_nil)) ?_
        intro g487 _ w489 H490 O491; clear H486 O417
        have O492 : Own w w489 [Bk g487 [.int .u8 x, .int .u8 hi_] 55, Chunk.row k55 55 w.heap.size Sa (.slice Aa rs.length ca) rs, Bk g2 [J 0, .slice none 0 0, .slice none 0 0] 26] := O491
        clear O491
        have O493 : Own w _ [Chunk.row k55 55 w.heap.size Sa (.slice Aa rs.length ca) rs, Chunk.void, Bk g487 [.int .u8 x, .int .u8 hi_] 55, Bk g2 [J 0, .slice none 0 0, .slice none 0 0] 26] := O492.void.sel [2, 0, 1, 3] (by decide)
        refine gw_append1 k55 0 (p := (⟨x, hi_⟩ : S55)) (cs := [.int .u8 x, .int .u8 hi_]) H490 O493 (want_none rfl) rfl (by decide) rfl Tryz.underlying23 gwinfo55 rfl (by decide) (by decide) rfl (H490.ev rfl) (H490.ev rfl) (fun w_ h_ => k55_mkM w_ _ _ (⟨x, hi_⟩ : S55) ) O493.below.size (by omega) ?_
        intro A494 c495 S496 _ w498 H499 O500; clear H490 O492 O493
        have O501 : Own w w498 [Chunk.row k55 55 w.heap.size S496 (.slice A494 ((rs ++ [(⟨x, hi_⟩ : S55)]).length) c495) (rs ++ [(⟨x, hi_⟩ : S55)]), Bk g487 [.int .u8 x, .int .u8 hi_] 55, Bk g2 [J 0, .slice none 0 0, .slice none 0 0] 26] := O500
        clear O500
        refine V H499 (op_assign rfl (H499.ev rfl)) ?_
        intro _ H503; clear H499
        refine wpList_nil ?_
        refine gw_blk ?_
        refine gw_nx (hK191 _ _ ?_)
        refine wp_region_lit ?_
        refine V H503 (op_assign rfl (ev_c _ _)) ?_
        intro _ H505; clear H503
        refine wpList_nil ?_
        refine gw_nx ⟨_, ?_, ((s.size : Int) - r2.length), false, (rs ++ [(⟨x, hi_⟩ : S55)]), A494, _, _, _, (H505.pick (t := 1) rfl (H505.pick (t := 10) rfl (H505.pick (t := 9) rfl (H505.pick (t := 0) rfl (H505.pick (t := 4) rfl (H505.pick (t := 8) rfl H505.nil)))))), O501.sel [0, 2] (by decide), ?_, ?_, ?_, ?_, ?_, rfl⟩
        ·
         rw [hm76]; omega
        ·
         omega
        ·
         intro r_ hr_; rcases List.mem_append.1 hr_ with h_ | h_; (exact hbs r_ h_); (rw [List.mem_singleton.1 h_]; dsimp only; omega)
        ·
         rw [List.length_append, List.length_singleton]; omega
        ·
         exact ⟨k, by (try rw [hrr2]); (try rw [hrr]); omega, by (try rw [hrr2]); (try rw [hrr]); exact hR.symm⟩
        ·
         rfl
     ·
      have H506 := H346.subst_ (d := 88) (b := false) rfl hb347
      clear H346
      (try simp only [Bool.not_eq_true] at hb347)
      have hhy : ¬ hyph r = true := by rw [hb347]; simp
      rw [if_neg hnb, if_neg hhy] at hR
      refine wp_skip ?_
      refine gw_nx (hK308 _ _ ?_)
      refine gw_seq fun K507 hK507 => ?_
      refine gR fun K508 hK508 => ?_
      refine V H506 (op_move rfl (H506.ev rfl)) ?_
      intro _ H510; clear H506
      refine V H510 (op_move rfl (H510.ev rfl)) ?_
      intro _ H512; clear H510
      refine V H512 (op_lss rfl (H512.ev rfl) (H512.ev rfl)) ?_
      intro _ H514; clear H512
      have H515 := H514.lit (b := false) (by simp)
      clear H514
      refine gE hK508 ?_
      refine gw_cond H515 rfl (fun hb516 => ?_) (fun hb516 => ?_)
      skip
      ·
       cases hb516
      refine wp_skip ?_
      refine gw_nx (hK507 _ _ ?_)
      refine wp_region_lit ?_
      refine V H515 (op_move rfl (H515.ev rfl)) ?_
      intro _ H518; clear H515
      refine V H518 (op_move rfl (H518.ev rfl)) ?_
      intro _ H520; clear H518
      refine V H520 (op_move rfl (H520.ev rfl)) ?_
      intro _ H522; clear H520
      refine V H522 (op_build (cells := #[.int .u8 x, .int .u8 x]) rfl (pt_cons (H522.ev rfl) (pt_cons (H522.ev rfl) pt_nil)) (by kernel_rfl)) ?_
      intro _ H524; clear H522
      refine gw_news (O := .cells #[.int .u8 x, .int .u8 x] 55 (0, 0)) (n := 1) H524 O275 (want_none rfl) rfl (by decide) (op_bslice (by kernel_rfl) rfl (pt_cons (H524.ev rfl) pt_nil)) ?_
      intro g525 _ w527 H528 O529; clear H524 O275
      have O530 : Own w w527 [Bk g525 [.int .u8 x, .int .u8 x] 55, Chunk.row k55 55 w.heap.size Sa (.slice Aa rs.length ca) rs, Bk g2 [J 0, .slice none 0 0, .slice none 0 0] 26] := O529
      clear O529
      have O531 : Own w _ [Chunk.row k55 55 w.heap.size Sa (.slice Aa rs.length ca) rs, Chunk.void, Bk g525 [.int .u8 x, .int .u8 x] 55, Bk g2 [J 0, .slice none 0 0, .slice none 0 0] 26] := O530.void.sel [2, 0, 1, 3] (by decide)
      refine gw_append1 k55 0 (p := (⟨x, x⟩ : S55)) (cs := [.int .u8 x, .int .u8 x]) H528 O531 (want_none rfl) rfl (by decide) rfl Tryz.underlying23 gwinfo55 rfl (by decide) (by decide) rfl (H528.ev rfl) (H528.ev rfl) (fun w_ h_ => k55_mkM w_ _ _ (⟨x, x⟩ : S55) ) O531.below.size (by omega) ?_
      intro A532 c533 S534 _ w536 H537 O538; clear H528 O530 O531
      have O539 : Own w w536 [Chunk.row k55 55 w.heap.size S534 (.slice A532 ((rs ++ [(⟨x, x⟩ : S55)]).length) c533) (rs ++ [(⟨x, x⟩ : S55)]), Bk g525 [.int .u8 x, .int .u8 x] 55, Bk g2 [J 0, .slice none 0 0, .slice none 0 0] 26] := O538
      clear O538
      refine V H537 (op_assign rfl (H537.ev rfl)) ?_
      intro _ H541; clear H537
      refine wpList_nil ?_
      refine gw_blk ?_
      refine gw_nx (hK191 _ _ ?_)
      refine wp_region_lit ?_
      refine V H541 (op_assign rfl (ev_c _ _)) ?_
      intro _ H543; clear H541
      refine wpList_nil ?_
      refine gw_nx ⟨_, ?_, ((s.size : Int) - r.length), false, (rs ++ [(⟨x, x⟩ : S55)]), A532, _, _, _, (H543.pick (t := 1) rfl (H543.pick (t := 10) rfl (H543.pick (t := 9) rfl (H543.pick (t := 0) rfl (H543.pick (t := 4) rfl (H543.pick (t := 8) rfl H543.nil)))))), O539.sel [0, 2] (by decide), ?_, ?_, ?_, ?_, ?_, rfl⟩
      ·
       rw [hm76]; omega
      ·
       omega
      ·
       intro r_ hr_; rcases List.mem_append.1 hr_ with h_ | h_; (exact hbs r_ h_); (rw [List.mem_singleton.1 h_]; dsimp only; omega)
      ·
       rw [List.length_append, List.length_singleton]; omega
      ·
       exact ⟨k, by (try rw [hrr2]); (try rw [hrr]); omega, by (try rw [hrr2]); (try rw [hrr]); exact hR.symm⟩
      ·
       rfl
 ·
  have H544 := H48.subst_ (d := 31) (b := false) rfl hb49
  clear H48
  (try simp only [decide_eq_false_iff_not] at hb49)
  have hbang : ¬ (rest_ s (p0 + 1)).head? = some 33 := hb49
  refine wp_skip ?_
  refine gw_nx (hK45 _ _ ?_)
  refine gR fun K545 hK545 => ?_
  refine gw_rlit0 k55 (e := 55) H544 O7 (want_none rfl) rfl (by decide) (op_bslice (by kernel_rfl) rfl pt_nil) ?_
  intro A546 S547 _ w549 H550 O551; clear H544 O7
  have O552 : Own w w549 [Chunk.row k55 55 w.heap.size S547 (.slice A546 (([] : List S55).length) 0) ([] : List S55), Bk g2 [J 0, .slice none 0 0, .slice none 0 0] 26] := O551
  clear O551
  refine V H550 (op_assign rfl (H550.ev rfl)) ?_
  intro _ H554; clear H550
  refine gE hK545 ?_
  refine gR fun K555 hK555 => ?_
  refine V H554 (op_assign rfl (ev_c _ _)) ?_
  intro _ H557; clear H554
  refine gE hK555 ?_
  refine wp_block ?_
  refine gw_loop (fun m_ a_ w_ => ∃ (p : Int) (fst : Bool) (rs : List S55) (Aa : Option Addr) (ca : Nat) (Sa : Nat → Prop) (no : Nat), Fr 115 a_ [(1, J p), (10, .bool fst), (9, .slice Aa no ca), (0, .string s), (4, .pointer (some ⟨g2, 0, none⟩)), (8, .bool (decide ((rest_ s (p0 + 1)).head? = some 33)))] ∧ Own w w_ [Chunk.row k55 55 w.heap.size Sa (.slice Aa no ca) rs, Bk g2 [J 0, .slice none 0 0, .slice none 0 0] 26] ∧ (0 ≤ p ∧ p ≤ s.size) ∧ (∀ r_ ∈ rs, 0 ≤ r_.f0 ∧ r_.f0 ≤ 255 ∧ 0 ≤ r_.f1 ∧ r_.f1 ≤ 255) ∧ ((rs.length : Int) ≤ p) ∧ (clsK s RES p fst rs) ∧ (no = rs.length) ∧ m_ = (s.size - p.toNat)) ((s.size - (p0 + 1 : Int).toNat)) ?_ ?_
  ·
   refine ⟨p0 + 1, true, ([] : List S55), A546, _, _, _, (H557.pick (t := 1) rfl (H557.pick (t := 10) rfl (H557.pick (t := 9) rfl (H557.pick (t := 0) rfl (H557.pick (t := 4) rfl (H557.pick (t := 8) rfl H557.nil)))))), O552.sel [0, 1] (by decide), ?_, ?_, ?_, ?_, ?_, rfl⟩
   ·
    omega
   ·
    intro r_ hr_; simp at hr_
   ·
    show (0 : Int) ≤ _; omega
   ·
    exact ⟨(rest_ s (p0 + 1)).length + 1, Nat.lt_succ_self _, by rw [hRES]; unfold clsR; rw [if_neg hbang]⟩
   ·
    rfl
  ·
   rintro m559 _ w561 ⟨p, fst, rs, Aa, ca, Sa, no, H562, O563, hp, hbs, hlen, hD, hno, hm564⟩
   subst hno
   have hrl := rest_len s p hp
   rcases clsK_in hD with ⟨hb1, hR⟩ | ⟨x, q, r, k, hb1, hk, hR⟩
   ·
    refine gw_seq fun K565 hK565 => ?_
    refine wp_block ?_
    refine gw_seq fun K566 hK566 => ?_
    refine gR fun K567 hK567 => ?_
    refine V H562 (op_move rfl (H562.ev rfl)) ?_
    intro _ H569; clear H562
    refine V H569 (op_move rfl (H569.ev rfl)) ?_
    intro _ H571; clear H569
    refine V H571 (op_lens Tryz.underlying9 rfl (H571.ev rfl)) ?_
    intro _ H573; clear H571
    refine V H573 (op_geq rfl (H573.ev rfl) (H573.ev rfl)) ?_
    intro _ H575; clear H573
    refine gE hK567 ?_
    refine gw_cond H575 rfl (fun hb576 => ?_) (fun hb576 => ?_)
    ·
     have H577 := H575.subst_ (d := 38) (b := true) rfl hb576
     clear H575
     (try simp only [decide_eq_true_eq] at hb576)
     refine gR fun K578 hK578 => ?_
     refine V H577 (op_build (cells := #[J 0, .slice none 0 0, .slice none 0 0]) rfl pt_nil (by kernel_rfl)) ?_
     intro _ H580; clear H577
     refine V H580 (op_move rfl (H580.ev rfl)) ?_
     intro _ H582; clear H580
     refine V H582 (op_lens Tryz.underlying9 rfl (H582.ev rfl)) ?_
     intro _ H584; clear H582
     refine gw_setn 1 H584 O563 rfl (want_none rfl) rfl (op_storen gwsiz26 rfl (H584.ev rfl) (H584.ev rfl) (O563.get 1 rfl) rfl (by simp) (by simp [Value.oneCell'])) ?_
     intro _ w587 H586 O588; clear H584 O563
     refine V H586 (op_assign rfl (ev_c _ _)) ?_
     intro _ H590; clear H586
     refine V H590 (op_assign rfl (ev_c _ _)) ?_
     intro _ H592; clear H590
     refine V H592 (op_assign rfl (H592.ev rfl)) ?_
     intro _ H594; clear H592
     refine gE hK578 ?_
     refine wp_ret ?_
     refine gw_thr ?_
     refine gw_blr ?_
     refine gw_thr ?_
     refine gw_thr ?_
     refine gw_blr ?_
     refine gw_rets4 H594 rfl (rv_celln H594 rfl gwagg26 gwsiz26 (O588.get 1 rfl) rfl) (rv_tmp H594 rfl) (rv_tmp H594 rfl) (rv_tmp H594 rfl) ?_
     have hRE : RES = clsR s (p0 + 1) := hRES
     have O595 := O588.row_nil k55 55 w.heap.size
     clear O588
     have O596 : Own w w587 [Chunk.row k55 55 w.heap.size (fun _ => False) (.slice none (([] : List S55).length) 0) ([] : List S55), Chunk.row k55 55 w.heap.size Sa (.slice Aa rs.length ca) rs, Bk g2 [J 0, .slice none 0 0, .slice none 0 0] 26] := O595
     clear O595
     have O597 := O596.row_view 0 rfl
     clear O596
     have O598 : Own w w587 [Chunk.view k55 (fun _ => False) none (([] : List S55).length) 0 ([] : List S55), Chunk.row k55 55 w.heap.size Sa (.slice Aa rs.length ca) rs, Bk g2 [J 0, .slice none 0 0, .slice none 0 0] 26] := O597
     clear O597
     exact ⟨_, _, _, _, _, _, _, _, rfl, (O598.sel [0] (by decide)).out, clsQ_bad (m := 0) (hR.symm.trans hRE) (by decide) (by simp)⟩
    ·
     have H599 := H575.subst_ (d := 38) (b := false) rfl hb576
     clear H575
     (try simp only [decide_eq_false_iff_not, Int.not_le] at hb576)
     refine wp_skip ?_
     refine gw_nx (hK566 _ _ ?_)
     refine gw_seq fun K600 hK600 => ?_
     refine gR fun K601 hK601 => ?_
     refine V H599 (op_move rfl (H599.ev rfl)) ?_
     intro _ H603; clear H599
     refine V H603 (op_move rfl (H603.ev rfl)) ?_
     intro _ H605; clear H603
     refine V H605 (op_sidx Tryz.underlying9 rfl (H605.ev rfl) (H605.ev rfl) ⟨by omega, by omega⟩) ?_
     intro _ H607; clear H605
     refine V H607 (op_eqi rfl (H607.ev rfl) (ev_c _ _)) ?_
     intro _ H609; clear H607
     refine V H609 (op_move rfl (H609.ev rfl)) ?_
     intro _ H611; clear H609
     have H612 := H611.lit (b := false) (by rw [none_92 (by omega) hb1]; rfl)
     clear H611
     refine Vo H612 (wn H612 rfl rfl rfl rfl) ?_
     intro _ H614; clear H612
     refine Vo H614 (wn H614 rfl rfl rfl rfl) ?_
     intro _ H616; clear H614
     refine V H616 (op_pick_f rfl (H616.ev rfl) (ev_c _ _)) ?_
     intro _ H618; clear H616
     refine gE hK601 ?_
     refine gw_cond H618 rfl (fun hb619 => ?_) (fun hb619 => ?_)
     skip
     ·
      cases hb619
     refine wp_skip ?_
     refine gw_nx (hK600 _ _ ?_)
     refine gR fun K620 hK620 => ?_
     refine V H618 (op_move rfl (H618.ev rfl)) ?_
     intro _ H622; clear H618
     refine V H622 (op_assign rfl (H622.ev rfl)) ?_
     intro _ H624; clear H622
     refine gE hK620 ?_
     refine gR fun K625 hK625 => ?_
     refine V H624 (op_move rfl (H624.ev rfl)) ?_
     intro _ H627; clear H624
     refine V H627 (op_move rfl (H627.ev rfl)) ?_
     intro _ H629; clear H627
     refine gw_call H629 (want_none rfl) rfl (by decide) (op_callL Tryz.func23 (by kernel_rfl) rfl rfl (ar_cons (H629.ev rfl) (ar_cons (H629.ev rfl) ar_nil))) (item_is s p _ (by omega) hs 0 0 false (item_none hb1)) ?_
     rintro e630 w631 ⟨rfl, hb632⟩
     refine ⟨_, rfl, fun _ H634 => ?_⟩
     have O635 := O563.after hb632
     clear H629 O563 hb632
     refine V H634 (op_move rfl (H634.ev rfl)) ?_
     intro _ H638; clear H634
     refine V H638 (op_extract rfl (H638.ev rfl) rfl) ?_
     intro _ H640; clear H638
     refine V H640 (op_extract rfl (H640.ev rfl) rfl) ?_
     intro _ H642; clear H640
     refine V H642 (op_extract rfl (H642.ev rfl) rfl) ?_
     intro _ H644; clear H642
     refine V H644 (op_assign rfl (H644.ev rfl)) ?_
     intro _ H646; clear H644
     refine V H646 (op_assign rfl (H646.ev rfl)) ?_
     intro _ H648; clear H646
     refine V H648 (op_assign rfl (H648.ev rfl)) ?_
     intro _ H650; clear H648
     refine gE hK625 ?_
     refine gw_seq fun K651 hK651 => ?_
     refine gR fun K652 hK652 => ?_
     refine V H650 (op_move rfl (H650.ev rfl)) ?_
     intro _ H654; clear H650
     refine V H654 (op_not rfl (H654.ev rfl)) ?_
     intro _ H656; clear H654
     refine gE hK652 ?_
     refine gw_cond H656 rfl (fun hb657 => ?_) (fun hb657 => ?_)
     rotate_left
     ·
      cases hb657
     refine gR fun K658 hK658 => ?_
     refine V H656 (op_build (cells := #[J 0, .slice none 0 0, .slice none 0 0]) rfl pt_nil (by kernel_rfl)) ?_
     intro _ H660; clear H656
     refine V H660 (op_move rfl (H660.ev rfl)) ?_
     intro _ H662; clear H660
     refine V H662 (op_lens Tryz.underlying9 rfl (H662.ev rfl)) ?_
     intro _ H664; clear H662
     refine gw_setn 1 H664 O635 rfl (want_none rfl) rfl (op_storen gwsiz26 rfl (H664.ev rfl) (H664.ev rfl) (O635.get 1 rfl) rfl (by simp) (by simp [Value.oneCell'])) ?_
     intro _ w667 H666 O668; clear H664 O635
     refine V H666 (op_assign rfl (ev_c _ _)) ?_
     intro _ H670; clear H666
     refine V H670 (op_assign rfl (ev_c _ _)) ?_
     intro _ H672; clear H670
     refine V H672 (op_assign rfl (H672.ev rfl)) ?_
     intro _ H674; clear H672
     refine gE hK658 ?_
     refine wp_ret ?_
     refine gw_thr ?_
     refine gw_blr ?_
     refine gw_thr ?_
     refine gw_thr ?_
     refine gw_blr ?_
     refine gw_rets4 H674 rfl (rv_celln H674 rfl gwagg26 gwsiz26 (O668.get 1 rfl) rfl) (rv_tmp H674 rfl) (rv_tmp H674 rfl) (rv_tmp H674 rfl) ?_
     have hRE : RES = clsR s (p0 + 1) := hRES
     have O675 := O668.row_nil k55 55 w.heap.size
     clear O668
     have O676 : Own w w667 [Chunk.row k55 55 w.heap.size (fun _ => False) (.slice none (([] : List S55).length) 0) ([] : List S55), Chunk.row k55 55 w.heap.size Sa (.slice Aa rs.length ca) rs, Bk g2 [J 0, .slice none 0 0, .slice none 0 0] 26] := O675
     clear O675
     have O677 := O676.row_view 0 rfl
     clear O676
     have O678 : Own w w667 [Chunk.view k55 (fun _ => False) none (([] : List S55).length) 0 ([] : List S55), Chunk.row k55 55 w.heap.size Sa (.slice Aa rs.length ca) rs, Bk g2 [J 0, .slice none 0 0, .slice none 0 0] 26] := O677
     clear O677
     exact ⟨_, _, _, _, _, _, _, _, rfl, (O678.sel [0] (by decide)).out, clsQ_bad (m := 0) (hR.symm.trans hRE) (by decide) (by simp)⟩
   ·
    obtain ⟨hrr, hp1, hp2⟩ := item_rest hp hs hb1
    have hps := rest_some hb1
    have hx := byteS_range hb1
    refine gw_seq fun K679 hK679 => ?_
    refine wp_block ?_
    refine gw_seq fun K680 hK680 => ?_
    refine gR fun K681 hK681 => ?_
    refine V H562 (op_move rfl (H562.ev rfl)) ?_
    intro _ H683; clear H562
    refine V H683 (op_move rfl (H683.ev rfl)) ?_
    intro _ H685; clear H683
    refine V H685 (op_lens Tryz.underlying9 rfl (H685.ev rfl)) ?_
    intro _ H687; clear H685
    refine V H687 (op_geq rfl (H687.ev rfl) (H687.ev rfl)) ?_
    intro _ H689; clear H687
    have H690 := H689.lit (b := false) (by rw [decide_eq_false_iff_not]; omega)
    clear H689
    refine gE hK681 ?_
    refine gw_cond H690 rfl (fun hb691 => ?_) (fun hb691 => ?_)
    skip
    ·
     cases hb691
    refine wp_skip ?_
    refine gw_nx (hK680 _ _ ?_)
    refine gw_seq fun K692 hK692 => ?_
    refine gR fun K693 hK693 => ?_
    refine V H690 (op_move rfl (H690.ev rfl)) ?_
    intro _ H695; clear H690
    refine V H695 (op_move rfl (H695.ev rfl)) ?_
    intro _ H697; clear H695
    refine V H697 (op_sidx Tryz.underlying9 rfl (H697.ev rfl) (H697.ev rfl) ⟨by omega, by omega⟩) ?_
    intro _ H699; clear H697
    refine V H699 (op_eqi rfl (H699.ev rfl) (ev_c _ _)) ?_
    intro _ H701; clear H699
    refine V H701 (op_move rfl (H701.ev rfl)) ?_
    intro _ H703; clear H701
    refine gw_evG H703 rfl rfl rfl rfl (on_t _) rfl (by decide) (fun h_ => (op_move rfl (H703.ev rfl))) ?_
    intro _ H705; clear H703
    refine gw_evG H705 rfl rfl rfl rfl (on_t _) rfl (by decide) (fun h_ => (op_not rfl (ev_gv (H705.ev rfl) h_))) ?_
    intro _ H707; clear H705
    refine V H707 (op_pick_and rfl (H707.ev rfl) (fun hp_ => (ev_gv (H707.ev rfl) hp_)) (ev_c _ _)) ?_
    intro _ H709; clear H707
    have H710 := H709.conv (v' := .bool (decide (x = 93 ∧ q = false ∧ fst = false))) (congrArg Value.bool (end_eq fst hp.1 hb1))
    clear H709
    refine gE hK693 ?_
    refine gw_cond H710 rfl (fun hb711 => ?_) (fun hb711 => ?_)
    ·
     have H712 := H710.subst_ (d := 49) (b := true) rfl hb711
     clear H710
     (try simp only [decide_eq_true_eq] at hb711)
     have hend := hb711
     rw [if_pos hend] at hR
     obtain ⟨hn1, hn2⟩ := plain_rest hp.1 hend.1 (hend.2.1 ▸ hb1)
     refine gR fun K713 hK713 => ?_
     refine V H712 (op_move rfl (H712.ev rfl)) ?_
     intro _ H715; clear H712
     refine V H715 (op_move rfl (H715.ev rfl)) ?_
     intro _ H717; clear H715
     refine gw_call H717 (want_none rfl) rfl (by decide) (op_callL Tryz.func37 (by kernel_rfl) rfl rfl (ar_cons (H717.ev rfl) (ar_cons (H717.ev rfl) ar_nil))) (rRanges_walk Aa ca rs (decide ((rest_ s (p0 + 1)).head? = some 33)) _ (Kd.R_reads' (O563.get 0 rfl)).2.2 (row_cap (O563.get 0 rfl)) hbs) ?_
     rintro e721 w722 ⟨A718, c719, S720, rfl, hb723⟩
     refine ⟨_, rfl, fun _ H725 => ?_⟩
     have O726 := O563.fresh hb723
     have hbel727 := O563.below
     clear H717 O563 hb723
     have O728 := O726.lowrow 0 rfl (base' := w.heap.size) (Below.size hbel727)
     refine V H725 (op_build (cells := #[J 1, .slice A718 ((canonP fun c_ => inR rs c_ != (decide ((rest_ s (p0 + 1)).head? = some 33))).length) c719, .slice none 0 0]) rfl (pt_cons (ev_c _ _) (pt_cons (H725.ev rfl) pt_nil)) (by kernel_rfl)) ?_
     intro _ H730; clear H725
     refine V H730 (op_move rfl (H730.ev rfl)) ?_
     intro _ H732; clear H730
     refine V H732 (op_add rfl (H732.ev rfl) (ev_c _ _) (by omega)) ?_
     intro _ H734; clear H732
     refine gw_setn 2 H734 O728 rfl (want_none rfl) rfl (op_storen gwsiz26 rfl (H734.ev rfl) (H734.ev rfl) (O728.get 2 rfl) rfl (by simp) (by simp [Value.oneCell'])) ?_
     intro _ w737 H736 O738; clear H734 O728
     refine V H736 (op_assign rfl (H736.ev rfl)) ?_
     intro _ H740; clear H736
     refine V H740 (op_assign rfl (ev_c _ _)) ?_
     intro _ H742; clear H740
     refine V H742 (op_assign rfl (ev_c _ _)) ?_
     intro _ H744; clear H742
     refine gE hK713 ?_
     refine wp_ret ?_
     refine gw_thr ?_
     refine gw_blr ?_
     refine gw_thr ?_
     refine gw_thr ?_
     refine gw_blr ?_
     refine gw_rets4 H744 rfl (rv_celln H744 rfl gwagg26 gwsiz26 (O738.get 2 rfl) rfl) (rv_tmp H744 rfl) (rv_tmp H744 rfl) (rv_tmp H744 rfl) ?_
     have hRE : RES = clsR s (p0 + 1) := hRES
     have O745 := O738.row_view 0 rfl
     clear O738
     have O746 : Own w w737 [Chunk.view k55 S720 A718 ((canonP fun c_ => inR rs c_ != (decide ((rest_ s (p0 + 1)).head? = some 33))).length) c719 (canonP fun c_ => inR rs c_ != (decide ((rest_ s (p0 + 1)).head? = some 33))), Chunk.row k55 55 w.heap.size Sa (.slice Aa rs.length ca) rs, Bk g2 [J 1, .slice A718 ((canonP fun c_ => inR rs c_ != (decide ((rest_ s (p0 + 1)).head? = some 33))).length) c719, .slice none 0 0] 26] := O745
     clear O745
     exact ⟨_, _, _, _, _, _, _, _, rfl, (O746.sel [0] (by decide)).out, clsQ_ok (by omega) (hR.symm.trans hRE) (by omega)⟩
    ·
     have H747 := H710.subst_ (d := 49) (b := false) rfl hb711
     clear H710
     (try simp only [decide_eq_false_iff_not] at hb711)
     have hnb := hb711
     refine wp_skip ?_
     refine gw_nx (hK692 _ _ ?_)
     refine gR fun K748 hK748 => ?_
     refine V H747 (op_move rfl (H747.ev rfl)) ?_
     intro _ H750; clear H747
     refine V H750 (op_assign rfl (H750.ev rfl)) ?_
     intro _ H752; clear H750
     refine gE hK748 ?_
     refine gR fun K753 hK753 => ?_
     refine V H752 (op_move rfl (H752.ev rfl)) ?_
     intro _ H755; clear H752
     refine V H755 (op_move rfl (H755.ev rfl)) ?_
     intro _ H757; clear H755
     refine gw_call H757 (want_none rfl) rfl (by decide) (op_callL Tryz.func23 (by kernel_rfl) rfl rfl (ar_cons (H757.ev rfl) (ar_cons (H757.ev rfl) ar_nil))) (item_is s p _ (by omega) hs x ((s.size : Int) - r.length) true (item_ok hb1)) ?_
     rintro e758 w759 ⟨rfl, hb760⟩
     refine ⟨_, rfl, fun _ H762 => ?_⟩
     have O763 := O563.after hb760
     clear H757 O563 hb760
     refine V H762 (op_move rfl (H762.ev rfl)) ?_
     intro _ H766; clear H762
     refine V H766 (op_extract rfl (H766.ev rfl) rfl) ?_
     intro _ H768; clear H766
     refine V H768 (op_extract rfl (H768.ev rfl) rfl) ?_
     intro _ H770; clear H768
     refine V H770 (op_extract rfl (H770.ev rfl) rfl) ?_
     intro _ H772; clear H770
     refine V H772 (op_assign rfl (H772.ev rfl)) ?_
     intro _ H774; clear H772
     refine V H774 (op_assign rfl (H774.ev rfl)) ?_
     intro _ H776; clear H774
     refine V H776 (op_assign rfl (H776.ev rfl)) ?_
     intro _ H778; clear H776
     refine gE hK753 ?_
     refine gw_seq fun K779 hK779 => ?_
     refine gR fun K780 hK780 => ?_
     refine V H778 (op_move rfl (H778.ev rfl)) ?_
     intro _ H782; clear H778
     refine V H782 (op_not rfl (H782.ev rfl)) ?_
     intro _ H784; clear H782
     refine gE hK780 ?_
     refine gw_cond H784 rfl (fun hb785 => ?_) (fun hb785 => ?_)
     skip
     ·
      cases hb785
     refine wp_skip ?_
     refine gw_nx (hK779 _ _ ?_)
     refine gR fun K786 hK786 => ?_
     refine V H784 (op_move rfl (H784.ev rfl)) ?_
     intro _ H788; clear H784
     refine V H788 (op_assign rfl (H788.ev rfl)) ?_
     intro _ H790; clear H788
     refine gE hK786 ?_
     refine gR fun K791 hK791 => ?_
     refine V H790 (op_move rfl (H790.ev rfl)) ?_
     intro _ H793; clear H790
     refine V H793 (op_assign rfl (H793.ev rfl)) ?_
     intro _ H795; clear H793
     refine gE hK791 ?_
     refine gw_seq fun K796 hK796 => ?_
     refine gR fun K797 hK797 => ?_
     refine V H795 (op_move rfl (H795.ev rfl)) ?_
     intro _ H799; clear H795
     refine V H799 (op_add rfl (H799.ev rfl) (ev_c _ _) (by omega)) ?_
     intro _ H801; clear H799
     refine V H801 (op_move rfl (H801.ev rfl)) ?_
     intro _ H803; clear H801
     refine V H803 (op_lens Tryz.underlying9 rfl (H803.ev rfl)) ?_
     intro _ H805; clear H803
     refine V H805 (op_lss rfl (H805.ev rfl) (H805.ev rfl)) ?_
     intro _ H807; clear H805
     refine V H807 (op_move rfl (H807.ev rfl)) ?_
     intro _ H809; clear H807
     refine gw_evG H809 rfl rfl rfl rfl (on_t _) rfl (by decide) (fun h_ => (op_move rfl (H809.ev rfl))) ?_
     intro _ H811; clear H809
     refine gw_evG H811 rfl rfl rfl rfl (on_t _) rfl (by decide) (fun h_ => (op_move rfl (H811.ev rfl))) ?_
     intro _ H813; clear H811
     refine gw_evG H813 rfl rfl rfl rfl (on_t _) rfl (by decide) (fun h_ => (op_sidx Tryz.underlying9 rfl (ev_gv (H813.ev rfl) h_) (ev_gv (H813.ev rfl) h_) ⟨by (try simp only [Bool.and_eq_true, Bool.or_eq_true, Bool.and_eq_false_iff, Bool.or_eq_false_iff, Bool.not_and, Bool.not_or, Bool.not_not, decide_eq_true_eq, decide_eq_false_iff_not, Bool.not_eq_true', Bool.not_eq_false', Bool.not_eq_true, Bool.not_eq_false, ne_eq, Decidable.not_not, Int.not_lt, Int.not_le, not_true_eq_false, not_false_eq_true, bne_iff_ne, beq_iff_eq, bne_eq_false_iff_eq, beq_eq_false_iff_ne] at h_); omega, by (try simp only [Bool.and_eq_true, Bool.or_eq_true, Bool.and_eq_false_iff, Bool.or_eq_false_iff, Bool.not_and, Bool.not_or, Bool.not_not, decide_eq_true_eq, decide_eq_false_iff_not, Bool.not_eq_true', Bool.not_eq_false', Bool.not_eq_true, Bool.not_eq_false, ne_eq, Decidable.not_not, Int.not_lt, Int.not_le, not_true_eq_false, not_false_eq_true, bne_iff_ne, beq_iff_eq, bne_eq_false_iff_eq, beq_eq_false_iff_ne] at h_); omega⟩)) ?_
     intro _ H815; clear H813
     refine gw_evG H815 rfl rfl rfl rfl (on_t _) rfl (by decide) (fun h_ => (op_eqi rfl (ev_gv (H815.ev rfl) h_) (ev_c _ _))) ?_
     intro _ H817; clear H815
     refine V H817 (op_pick_and rfl (H817.ev rfl) (fun hp_ => (ev_gv (H817.ev rfl) hp_)) (ev_c _ _)) ?_
     intro _ H819; clear H817
     refine V H819 (op_move rfl (H819.ev rfl)) ?_
     intro _ H821; clear H819
     refine gw_evG H821 rfl rfl rfl rfl (on_t _) rfl (by decide) (fun h_ => (op_move rfl (H821.ev rfl))) ?_
     intro _ H823; clear H821
     refine gw_evG H823 rfl rfl rfl rfl (on_t _) rfl (by decide) (fun h_ => (op_move rfl (H823.ev rfl))) ?_
     intro _ H825; clear H823
     refine gw_evG H825 rfl rfl rfl rfl (on_t _) rfl (by decide) (fun h_ => (op_add rfl (ev_gv (H825.ev rfl) h_) (ev_c _ _) (by (try simp only [Bool.and_eq_true, Bool.or_eq_true, Bool.and_eq_false_iff, Bool.or_eq_false_iff, Bool.not_and, Bool.not_or, Bool.not_not, decide_eq_true_eq, decide_eq_false_iff_not, Bool.not_eq_true', Bool.not_eq_false', Bool.not_eq_true, Bool.not_eq_false, ne_eq, Decidable.not_not, Int.not_lt, Int.not_le, not_true_eq_false, not_false_eq_true, bne_iff_ne, beq_iff_eq, bne_eq_false_iff_eq, beq_eq_false_iff_ne] at h_); omega))) ?_
     intro _ H827; clear H825
     refine gw_evG H827 rfl rfl rfl rfl (on_t _) rfl (by decide) (fun h_ => (op_sidx Tryz.underlying9 rfl (ev_gv (H827.ev rfl) h_) (ev_gv (H827.ev rfl) h_) ⟨by (try simp only [Bool.and_eq_true, Bool.or_eq_true, Bool.and_eq_false_iff, Bool.or_eq_false_iff, Bool.not_and, Bool.not_or, Bool.not_not, decide_eq_true_eq, decide_eq_false_iff_not, Bool.not_eq_true', Bool.not_eq_false', Bool.not_eq_true, Bool.not_eq_false, ne_eq, Decidable.not_not, Int.not_lt, Int.not_le, not_true_eq_false, not_false_eq_true, bne_iff_ne, beq_iff_eq, bne_eq_false_iff_eq, beq_eq_false_iff_ne] at h_); omega, by (try simp only [Bool.and_eq_true, Bool.or_eq_true, Bool.and_eq_false_iff, Bool.or_eq_false_iff, Bool.not_and, Bool.not_or, Bool.not_not, decide_eq_true_eq, decide_eq_false_iff_not, Bool.not_eq_true', Bool.not_eq_false', Bool.not_eq_true, Bool.not_eq_false, ne_eq, Decidable.not_not, Int.not_lt, Int.not_le, not_true_eq_false, not_false_eq_true, bne_iff_ne, beq_iff_eq, bne_eq_false_iff_eq, beq_eq_false_iff_ne] at h_); omega⟩)) ?_
     intro _ H829; clear H827
     refine gw_evG H829 rfl rfl rfl rfl (on_t _) rfl (by decide) (fun h_ => (op_nei rfl (ev_gv (H829.ev rfl) h_) (ev_c _ _))) ?_
     intro _ H831; clear H829
     refine V H831 (op_pick_and rfl (H831.ev rfl) (fun hp_ => (ev_gv (H831.ev rfl) hp_)) (ev_c _ _)) ?_
     intro _ H833; clear H831
     have H834 := H833.conv (v' := .bool (hyph r)) (congrArg Value.bool (hyph_at s ((s.size : Int) - r.length) r (by omega) hrr))
     clear H833
     refine gE hK797 ?_
     refine gw_cond H834 rfl (fun hb835 => ?_) (fun hb835 => ?_)
     ·
      have H836 := H834.subst_ (d := 88) (b := true) rfl hb835
      clear H834
      (try simp only [Bool.not_eq_true] at hb835)
      have hhy : hyph r = true := by assumption
      have hltr : ((s.size : Int) - r.length) < s.size := by refine Int.not_le.1 fun h_ => ?_; have h2_ : r = [] := List.length_eq_zero_iff.1 (by omega); rw [h2_] at hhy; cases hhy
      have hlt2 : ((s.size : Int) - r.length) + 1 < s.size := by refine Int.not_le.1 fun h_ => ?_; obtain ⟨c_, h2_⟩ := List.length_eq_one_iff.1 (show r.length = 1 by omega); rw [h2_] at hhy; cases hhy
      have htl : rest_ s (((s.size : Int) - r.length) + 1) = r.tail := by have h_ := rest_cons s ((s.size : Int) - r.length) (by omega); rw [hrr] at h_; exact (congrArg List.tail h_).symm
      rcases hb2 : byteS (rest_ s (((s.size : Int) - r.length) + 1)) with _ | ⟨hi_, q2, r2⟩
      ·
       rw [if_neg hnb, if_pos hhy, show byteS r.tail = none by rw [← htl]; exact hb2] at hR; simp only at hR
       refine gR fun K837 hK837 => ?_
       refine V H836 (op_move rfl (H836.ev rfl)) ?_
       intro _ H839; clear H836
       refine V H839 (op_move rfl (H839.ev rfl)) ?_
       intro _ H841; clear H839
       refine V H841 (op_add rfl (H841.ev rfl) (ev_c _ _) (by omega)) ?_
       intro _ H843; clear H841
       refine gw_call H843 (want_none rfl) rfl (by decide) (op_callL Tryz.func23 (by kernel_rfl) rfl rfl (ar_cons (H843.ev rfl) (ar_cons (H843.ev rfl) ar_nil))) (item_is s (((s.size : Int) - r.length) + 1) _ (by omega) hs 0 0 false (item_none hb2)) ?_
       rintro e844 w845 ⟨rfl, hb846⟩
       refine ⟨_, rfl, fun _ H848 => ?_⟩
       have O849 := O763.after hb846
       clear H843 O763 hb846
       refine V H848 (op_move rfl (H848.ev rfl)) ?_
       intro _ H852; clear H848
       refine V H852 (op_extract rfl (H852.ev rfl) rfl) ?_
       intro _ H854; clear H852
       refine V H854 (op_extract rfl (H854.ev rfl) rfl) ?_
       intro _ H856; clear H854
       refine V H856 (op_extract rfl (H856.ev rfl) rfl) ?_
       intro _ H858; clear H856
       refine V H858 (op_assign rfl (H858.ev rfl)) ?_
       intro _ H860; clear H858
       refine V H860 (op_assign rfl (H860.ev rfl)) ?_
       intro _ H862; clear H860
       refine V H862 (op_assign rfl (H862.ev rfl)) ?_
       intro _ H864; clear H862
       refine gE hK837 ?_
       refine gw_seq fun K865 hK865 => ?_
       refine gR fun K866 hK866 => ?_
       refine V H864 (op_move rfl (H864.ev rfl)) ?_
       intro _ H868; clear H864
       refine V H868 (op_not rfl (H868.ev rfl)) ?_
       intro _ H870; clear H868
       refine gE hK866 ?_
       refine gw_cond H870 rfl (fun hb871 => ?_) (fun hb871 => ?_)
       rotate_left
       ·
        cases hb871
       refine gR fun K872 hK872 => ?_
       refine V H870 (op_build (cells := #[J 0, .slice none 0 0, .slice none 0 0]) rfl pt_nil (by kernel_rfl)) ?_
       intro _ H874; clear H870
       refine V H874 (op_move rfl (H874.ev rfl)) ?_
       intro _ H876; clear H874
       refine V H876 (op_lens Tryz.underlying9 rfl (H876.ev rfl)) ?_
       intro _ H878; clear H876
       refine gw_setn 1 H878 O849 rfl (want_none rfl) rfl (op_storen gwsiz26 rfl (H878.ev rfl) (H878.ev rfl) (O849.get 1 rfl) rfl (by simp) (by simp [Value.oneCell'])) ?_
       intro _ w881 H880 O882; clear H878 O849
       refine V H880 (op_assign rfl (ev_c _ _)) ?_
       intro _ H884; clear H880
       refine V H884 (op_assign rfl (ev_c _ _)) ?_
       intro _ H886; clear H884
       refine V H886 (op_assign rfl (H886.ev rfl)) ?_
       intro _ H888; clear H886
       refine gE hK872 ?_
       refine wp_ret ?_
       refine gw_thr ?_
       refine gw_thr ?_
       refine gw_blr ?_
       refine gw_thr ?_
       refine gw_thr ?_
       refine gw_blr ?_
       refine gw_rets4 H888 rfl (rv_celln H888 rfl gwagg26 gwsiz26 (O882.get 1 rfl) rfl) (rv_tmp H888 rfl) (rv_tmp H888 rfl) (rv_tmp H888 rfl) ?_
       have hRE : RES = clsR s (p0 + 1) := hRES
       have O889 := O882.row_nil k55 55 w.heap.size
       clear O882
       have O890 : Own w w881 [Chunk.row k55 55 w.heap.size (fun _ => False) (.slice none (([] : List S55).length) 0) ([] : List S55), Chunk.row k55 55 w.heap.size Sa (.slice Aa rs.length ca) rs, Bk g2 [J 0, .slice none 0 0, .slice none 0 0] 26] := O889
       clear O889
       have O891 := O890.row_view 0 rfl
       clear O890
       have O892 : Own w w881 [Chunk.view k55 (fun _ => False) none (([] : List S55).length) 0 ([] : List S55), Chunk.row k55 55 w.heap.size Sa (.slice Aa rs.length ca) rs, Bk g2 [J 0, .slice none 0 0, .slice none 0 0] 26] := O891
       clear O891
       exact ⟨_, _, _, _, _, _, _, _, rfl, (O892.sel [0] (by decide)).out, clsQ_bad (m := 0) (hR.symm.trans hRE) (by decide) (by simp)⟩
      ·
       obtain ⟨hrr2, hp3, hp4⟩ := item_rest (by omega) hs hb2
       have hx2 := byteS_range hb2
       have hr2l := byteS_lt hb2
       rw [if_neg hnb, if_pos hhy, show byteS r.tail = some (hi_, q2, r2) by rw [← htl]; exact hb2] at hR; simp only at hR
       refine gR fun K893 hK893 => ?_
       refine V H836 (op_move rfl (H836.ev rfl)) ?_
       intro _ H895; clear H836
       refine V H895 (op_move rfl (H895.ev rfl)) ?_
       intro _ H897; clear H895
       refine V H897 (op_add rfl (H897.ev rfl) (ev_c _ _) (by omega)) ?_
       intro _ H899; clear H897
       refine gw_call H899 (want_none rfl) rfl (by decide) (op_callL Tryz.func23 (by kernel_rfl) rfl rfl (ar_cons (H899.ev rfl) (ar_cons (H899.ev rfl) ar_nil))) (item_is s (((s.size : Int) - r.length) + 1) _ (by omega) hs hi_ ((s.size : Int) - r2.length) true (item_ok hb2)) ?_
       rintro e900 w901 ⟨rfl, hb902⟩
       refine ⟨_, rfl, fun _ H904 => ?_⟩
       have O905 := O763.after hb902
       clear H899 O763 hb902
       refine V H904 (op_move rfl (H904.ev rfl)) ?_
       intro _ H908; clear H904
       refine V H908 (op_extract rfl (H908.ev rfl) rfl) ?_
       intro _ H910; clear H908
       refine V H910 (op_extract rfl (H910.ev rfl) rfl) ?_
       intro _ H912; clear H910
       refine V H912 (op_extract rfl (H912.ev rfl) rfl) ?_
       intro _ H914; clear H912
       refine V H914 (op_assign rfl (H914.ev rfl)) ?_
       intro _ H916; clear H914
       refine V H916 (op_assign rfl (H916.ev rfl)) ?_
       intro _ H918; clear H916
       refine V H918 (op_assign rfl (H918.ev rfl)) ?_
       intro _ H920; clear H918
       refine gE hK893 ?_
       refine gw_seq fun K921 hK921 => ?_
       refine gR fun K922 hK922 => ?_
       refine V H920 (op_move rfl (H920.ev rfl)) ?_
       intro _ H924; clear H920
       refine V H924 (op_not rfl (H924.ev rfl)) ?_
       intro _ H926; clear H924
       refine gE hK922 ?_
       refine gw_cond H926 rfl (fun hb927 => ?_) (fun hb927 => ?_)
       skip
       ·
        cases hb927
       refine wp_skip ?_
       refine gw_nx (hK921 _ _ ?_)
       refine gR fun K928 hK928 => ?_
       refine V H926 (op_move rfl (H926.ev rfl)) ?_
       intro _ H930; clear H926
       refine V H930 (op_assign rfl (H930.ev rfl)) ?_
       intro _ H932; clear H930
       refine gE hK928 ?_
       refine wp_region_lit ?_
       refine V H932 (op_move rfl (H932.ev rfl)) ?_
       intro _ H934; clear H932
       refine V H934 (op_assign rfl (H934.ev rfl)) ?_
       intro _ H936; clear H934
       refine gE hK796 ?_
       refine gw_seq fun K937 hK937 => ?_
       refine gR fun K938 hK938 => ?_
       refine V H936 (op_move rfl (H936.ev rfl)) ?_
       intro _ H940; clear H936
       refine V H940 (op_move rfl (H940.ev rfl)) ?_
       intro _ H942; clear H940
       refine V H942 (op_lss rfl (H942.ev rfl) (H942.ev rfl)) ?_
       intro _ H944; clear H942
       refine gE hK938 ?_
       refine gw_cond H944 rfl (fun hb945 => ?_) (fun hb945 => ?_)
       ·
        have H946 := H944.subst_ (d := 106) (b := true) rfl hb945
        clear H944
        (try simp only [decide_eq_true_eq] at hb945)
        rw [if_pos (by assumption)] at hR
        refine gR fun K947 hK947 => ?_
        refine V H946 (op_build (cells := #[J 0, .slice none 0 0, .slice none 0 0]) rfl pt_nil (by kernel_rfl)) ?_
        intro _ H949; clear H946
        refine V H949 (op_move rfl (H949.ev rfl)) ?_
        intro _ H951; clear H949
        refine gw_setn 1 H951 O905 rfl (want_none rfl) rfl (op_storen gwsiz26 rfl (H951.ev rfl) (H951.ev rfl) (O905.get 1 rfl) rfl (by simp) (by simp [Value.oneCell'])) ?_
        intro _ w954 H953 O955; clear H951 O905
        refine V H953 (op_assign rfl (ev_c _ _)) ?_
        intro _ H957; clear H953
        refine V H957 (op_assign rfl (ev_c _ _)) ?_
        intro _ H959; clear H957
        refine V H959 (op_assign rfl (H959.ev rfl)) ?_
        intro _ H961; clear H959
        refine gE hK947 ?_
        refine wp_ret ?_
        refine gw_thr ?_
        refine gw_blr ?_
        refine gw_thr ?_
        refine gw_thr ?_
        refine gw_blr ?_
        refine gw_rets4 H961 rfl (rv_celln H961 rfl gwagg26 gwsiz26 (O955.get 1 rfl) rfl) (rv_tmp H961 rfl) (rv_tmp H961 rfl) (rv_tmp H961 rfl) ?_
        have hRE : RES = clsR s (p0 + 1) := hRES
        have O962 := O955.row_nil k55 55 w.heap.size
        clear O955
        have O963 : Own w w954 [Chunk.row k55 55 w.heap.size (fun _ => False) (.slice none (([] : List S55).length) 0) ([] : List S55), Chunk.row k55 55 w.heap.size Sa (.slice Aa rs.length ca) rs, Bk g2 [J 0, .slice none 0 0, .slice none 0 0] 26] := O962
        clear O962
        have O964 := O963.row_view 0 rfl
        clear O963
        have O965 : Own w w954 [Chunk.view k55 (fun _ => False) none (([] : List S55).length) 0 ([] : List S55), Chunk.row k55 55 w.heap.size Sa (.slice Aa rs.length ca) rs, Bk g2 [J 0, .slice none 0 0, .slice none 0 0] 26] := O964
        clear O964
        exact ⟨_, _, _, _, _, _, _, _, rfl, (O965.sel [0] (by decide)).out, clsQ_bad (m := (rest_ s p).length) (hR.symm.trans hRE) (by decide) (by omega)⟩
       ·
        have H966 := H944.subst_ (d := 106) (b := false) rfl hb945
        clear H944
        (try simp only [decide_eq_false_iff_not, Int.not_lt] at hb945)
        rw [if_neg (by omega)] at hR
        refine wp_skip ?_
        refine gw_nx (hK937 _ _ ?_)
        refine wp_region_lit ?_
        refine V H966 (op_move rfl (H966.ev rfl)) ?_
        intro _ H968; clear H966
        refine V H968 (op_move rfl (H968.ev rfl)) ?_
        intro _ H970; clear H968
        refine V H970 (op_move rfl (H970.ev rfl)) ?_
        intro _ H972; clear H970
        refine V H972 (op_build (cells := #[.int .u8 x, .int .u8 hi_]) rfl (pt_cons (H972.ev rfl) (pt_cons (H972.ev rfl) pt_nil)) (by kernel_rfl)) ?_
        intro _ H974; clear H972
        refine gw_news (O := .cells #[.int .u8 x, .int .u8 hi_] 55 (0, 0)) (n := 1) H974 O905 (want_none rfl) rfl (by decide) (op_bslice (by kernel_rfl) rfl (pt_cons (H974.ev rfl) pt_nil)) ?_
        intro g975 _ w977 H978 O979; clear H974 O905
        have O980 : Own w w977 [Bk g975 [.int .u8 x, .int .u8 hi_] 55, Chunk.row k55 55 w.heap.size Sa (.slice Aa rs.length ca) rs, Bk g2 [J 0, .slice none 0 0, .slice none 0 0] 26] := O979
        clear O979
        have O981 : Own w _ [Chunk.row k55 55 w.heap.size Sa (.slice Aa rs.length ca) rs, Chunk.void, Bk g975 [.int .u8 x, .int .u8 hi_] 55, Bk g2 [J 0, .slice none 0 0, .slice none 0 0] 26] := O980.void.sel [2, 0, 1, 3] (by decide)
        refine gw_append1 k55 0 (p := (⟨x, hi_⟩ : S55)) (cs := [.int .u8 x, .int .u8 hi_]) H978 O981 (want_none rfl) rfl (by decide) rfl Tryz.underlying23 gwinfo55 rfl (by decide) (by decide) rfl (H978.ev rfl) (H978.ev rfl) (fun w_ h_ => k55_mkM w_ _ _ (⟨x, hi_⟩ : S55) ) O981.below.size (by omega) ?_
        intro A982 c983 S984 _ w986 H987 O988; clear H978 O980 O981
        have O989 : Own w w986 [Chunk.row k55 55 w.heap.size S984 (.slice A982 ((rs ++ [(⟨x, hi_⟩ : S55)]).length) c983) (rs ++ [(⟨x, hi_⟩ : S55)]), Bk g975 [.int .u8 x, .int .u8 hi_] 55, Bk g2 [J 0, .slice none 0 0, .slice none 0 0] 26] := O988
        clear O988
        refine V H987 (op_assign rfl (H987.ev rfl)) ?_
        intro _ H991; clear H987
        refine wpList_nil ?_
        refine gw_blk ?_
        refine gw_nx (hK679 _ _ ?_)
        refine wp_region_lit ?_
        refine V H991 (op_assign rfl (ev_c _ _)) ?_
        intro _ H993; clear H991
        refine wpList_nil ?_
        refine gw_nx ⟨_, ?_, ((s.size : Int) - r2.length), false, (rs ++ [(⟨x, hi_⟩ : S55)]), A982, _, _, _, (H993.pick (t := 1) rfl (H993.pick (t := 10) rfl (H993.pick (t := 9) rfl (H993.pick (t := 0) rfl (H993.pick (t := 4) rfl (H993.pick (t := 8) rfl H993.nil)))))), O989.sel [0, 2] (by decide), ?_, ?_, ?_, ?_, ?_, rfl⟩
        ·
         rw [hm564]; omega
        ·
         omega
        ·
         intro r_ hr_; rcases List.mem_append.1 hr_ with h_ | h_; (exact hbs r_ h_); (rw [List.mem_singleton.1 h_]; dsimp only; omega)
        ·
         rw [List.length_append, List.length_singleton]; omega
        ·
         exact ⟨k, by (try rw [hrr2]); (try rw [hrr]); omega, by (try rw [hrr2]); (try rw [hrr]); exact hR.symm⟩
        ·
         rfl
     ·
      have H994 := H834.subst_ (d := 88) (b := false) rfl hb835
      clear H834
      (try simp only [Bool.not_eq_true] at hb835)
      have hhy : ¬ hyph r = true := by rw [hb835]; simp
      rw [if_neg hnb, if_neg hhy] at hR
      refine wp_skip ?_
      refine gw_nx (hK796 _ _ ?_)
      refine gw_seq fun K995 hK995 => ?_
      refine gR fun K996 hK996 => ?_
      refine V H994 (op_move rfl (H994.ev rfl)) ?_
      intro _ H998; clear H994
      refine V H998 (op_move rfl (H998.ev rfl)) ?_
      intro _ H1000; clear H998
      refine V H1000 (op_lss rfl (H1000.ev rfl) (H1000.ev rfl)) ?_
      intro _ H1002; clear H1000
      have H1003 := H1002.lit (b := false) (by simp)
      clear H1002
      refine gE hK996 ?_
      refine gw_cond H1003 rfl (fun hb1004 => ?_) (fun hb1004 => ?_)
      skip
      ·
       cases hb1004
      refine wp_skip ?_
      refine gw_nx (hK995 _ _ ?_)
      refine wp_region_lit ?_
      refine V H1003 (op_move rfl (H1003.ev rfl)) ?_
      intro _ H1006; clear H1003
      refine V H1006 (op_move rfl (H1006.ev rfl)) ?_
      intro _ H1008; clear H1006
      refine V H1008 (op_move rfl (H1008.ev rfl)) ?_
      intro _ H1010; clear H1008
      refine V H1010 (op_build (cells := #[.int .u8 x, .int .u8 x]) rfl (pt_cons (H1010.ev rfl) (pt_cons (H1010.ev rfl) pt_nil)) (by kernel_rfl)) ?_
      intro _ H1012; clear H1010
      refine gw_news (O := .cells #[.int .u8 x, .int .u8 x] 55 (0, 0)) (n := 1) H1012 O763 (want_none rfl) rfl (by decide) (op_bslice (by kernel_rfl) rfl (pt_cons (H1012.ev rfl) pt_nil)) ?_
      intro g1013 _ w1015 H1016 O1017; clear H1012 O763
      have O1018 : Own w w1015 [Bk g1013 [.int .u8 x, .int .u8 x] 55, Chunk.row k55 55 w.heap.size Sa (.slice Aa rs.length ca) rs, Bk g2 [J 0, .slice none 0 0, .slice none 0 0] 26] := O1017
      clear O1017
      have O1019 : Own w _ [Chunk.row k55 55 w.heap.size Sa (.slice Aa rs.length ca) rs, Chunk.void, Bk g1013 [.int .u8 x, .int .u8 x] 55, Bk g2 [J 0, .slice none 0 0, .slice none 0 0] 26] := O1018.void.sel [2, 0, 1, 3] (by decide)
      refine gw_append1 k55 0 (p := (⟨x, x⟩ : S55)) (cs := [.int .u8 x, .int .u8 x]) H1016 O1019 (want_none rfl) rfl (by decide) rfl Tryz.underlying23 gwinfo55 rfl (by decide) (by decide) rfl (H1016.ev rfl) (H1016.ev rfl) (fun w_ h_ => k55_mkM w_ _ _ (⟨x, x⟩ : S55) ) O1019.below.size (by omega) ?_
      intro A1020 c1021 S1022 _ w1024 H1025 O1026; clear H1016 O1018 O1019
      have O1027 : Own w w1024 [Chunk.row k55 55 w.heap.size S1022 (.slice A1020 ((rs ++ [(⟨x, x⟩ : S55)]).length) c1021) (rs ++ [(⟨x, x⟩ : S55)]), Bk g1013 [.int .u8 x, .int .u8 x] 55, Bk g2 [J 0, .slice none 0 0, .slice none 0 0] 26] := O1026
      clear O1026
      refine V H1025 (op_assign rfl (H1025.ev rfl)) ?_
      intro _ H1029; clear H1025
      refine wpList_nil ?_
      refine gw_blk ?_
      refine gw_nx (hK679 _ _ ?_)
      refine wp_region_lit ?_
      refine V H1029 (op_assign rfl (ev_c _ _)) ?_
      intro _ H1031; clear H1029
      refine wpList_nil ?_
      refine gw_nx ⟨_, ?_, ((s.size : Int) - r.length), false, (rs ++ [(⟨x, x⟩ : S55)]), A1020, _, _, _, (H1031.pick (t := 1) rfl (H1031.pick (t := 10) rfl (H1031.pick (t := 9) rfl (H1031.pick (t := 0) rfl (H1031.pick (t := 4) rfl (H1031.pick (t := 8) rfl H1031.nil)))))), O1027.sel [0, 2] (by decide), ?_, ?_, ?_, ?_, ?_, rfl⟩
      ·
       rw [hm564]; omega
      ·
       omega
      ·
       intro r_ hr_; rcases List.mem_append.1 hr_ with h_ | h_; (exact hbs r_ h_); (rw [List.mem_singleton.1 h_]; dsimp only; omega)
      ·
       rw [List.length_append, List.length_singleton]; omega
      ·
       exact ⟨k, by (try rw [hrr2]); (try rw [hrr]); omega, by (try rw [hrr2]); (try rw [hrr]); exact hR.symm⟩
      ·
       rfl
end GRefK_
export GRefK_ (rclass_walk)
end Go.Proofs.YtelbgmpeghhakaaGreat.PA
end
section
namespace Go.Proofs.YtelbgmpeghhakaaGreat.PA
open Go.RowKit Go.Proofs.YtelbgmpeghhakaaGreatW.PrintWords Go.Proofs.YtelbgmpeghhakaaGreatW.PrintLast Go.Proofs.YtelbgmpeghhakaaGreatW.PrintMore
set_option linter.unusedVariables false
set_option linter.unusedSimpArgs false
namespace GRefO_
theorem gwagg26 : ∀ w, (isAgg 26).run Tryz.prog w = .ok true w := fun _ => by kernel_rfl
theorem gwsiz26 : ∀ w, (sizeOf 26).run Tryz.prog w = .ok 3 w := fun _ => by kernel_rfl
theorem gwzer26 : ∀ w, (zeroValue 26).run Tryz.prog w = .ok (.agg #[.int .i64 0, .slice none 0 0, .slice none 0 0]) w := fun _ => by kernel_rfl
set_option maxHeartbeats 4000000 in
set_option maxRecDepth 100000 in
theorem rone_walk (c0 : Int) (w : World) :
    Calls Tryz.prog 24 #[.int .u8 c0] w fun e w' => ∃ A c S, e = .returned (.agg #[.int .i64 1, .slice A ([(⟨c0, c0⟩ : S55)]).length c, .slice none 0 0]) ∧ Out w w' (fun _ => False) [Chunk.view k55 S A ([(⟨c0, c0⟩ : S55)]).length c ([(⟨c0, c0⟩ : S55)])] := by
 refine gw_start (N := 8) (vs := [.int .u8 c0]) Tryz.func24 rfl rfl (by simp) fun a HF HO => ?_
 replace HO : Own w w [] := HO
 refine gR fun K1 hK1 => ?_
 refine gw_new HF HO (want_none rfl) rfl (by decide) (op_alloc gwzer26 rfl) ?_
 intro g2 _ w4 H5 O6; clear HF HO
 have O7 : Own w w4 [Bk g2 [J 0, .slice none 0 0, .slice none 0 0] 26] := O6
 clear O6
 refine gE hK1 ?_
 refine gR fun K8 hK8 => ?_
 refine V H5 (op_move rfl (H5.ev rfl)) ?_
 intro _ H10; clear H5
 refine V H10 (op_move rfl (H10.ev rfl)) ?_
 intro _ H12; clear H10
 refine V H12 (op_build (cells := #[.int .u8 c0, .int .u8 c0]) rfl (pt_cons (H12.ev rfl) (pt_cons (H12.ev rfl) pt_nil)) (by kernel_rfl)) ?_
 intro _ H14; clear H12
 refine gw_news (O := .cells #[.int .u8 c0, .int .u8 c0] 55 (0, 0)) (n := 1) H14 O7 (want_none rfl) rfl (by decide) (op_bslice (by kernel_rfl) rfl (pt_cons (H14.ev rfl) pt_nil)) ?_
 intro g15 _ w17 H18 O19; clear H14 O7
 have O20 : Own w w17 [Bk g15 [.int .u8 c0, .int .u8 c0] 55, Bk g2 [J 0, .slice none 0 0, .slice none 0 0] 26] := O19
 clear O19
 have O22 : Own w w17 [Chunk.view k55 (fun k_ => k_ = g15 ∨ Chunk.void.S k_) (some ⟨g15, 0, none⟩) (([(⟨c0, c0⟩ : S55)]).length) (([(⟨c0, c0⟩ : S55)]).length) ([(⟨c0, c0⟩ : S55)]), Bk g2 [J 0, .slice none 0 0, .slice none 0 0] 26] := Own.lit_view (cs := [.int .u8 c0, .int .u8 c0]) (O20.void.sel [1, 0, 2] (by decide)) k55 [(⟨c0, c0⟩ : S55)] (fun w_ h_ => reps_more (k55_mkF _ _ (⟨c0, c0⟩ : S55)) rfl reps_none) (by simp [maxLen])
 clear O20
 refine V H18 (op_build (cells := #[J 1, .slice (some ⟨g15, 0, none⟩) (([(⟨c0, c0⟩ : S55)]).length) (([(⟨c0, c0⟩ : S55)]).length), .slice none 0 0]) rfl (pt_cons (ev_c _ _) (pt_cons (H18.ev rfl) pt_nil)) (by kernel_rfl)) ?_
 intro _ H24; clear H18
 refine gw_setn 1 H24 O22 rfl (want_none rfl) rfl (op_storen gwsiz26 rfl (H24.ev rfl) (H24.ev rfl) (O22.get 1 rfl) rfl (by simp) (by simp [Value.oneCell'])) ?_
 intro _ w27 H26 O28; clear H24 O22
 refine gE hK8 ?_
 refine wp_ret ?_
 refine gw_rets1 H26 rfl (rv_celln H26 rfl gwagg26 gwsiz26 (O28.get 1 rfl) rfl) ?_
 exact ⟨_, _, _, rfl, (O28.sel [0] (by decide)).out⟩
set_option maxHeartbeats 4000000 in
set_option maxRecDepth 100000 in
theorem rall_walk (w : World) :
    Calls Tryz.prog 21 #[] w fun e w' => ∃ A c S, e = .returned (.agg #[.int .i64 1, .slice A ([(⟨0, 255⟩ : S55)]).length c, .slice none 0 0]) ∧ Out w w' (fun _ => False) [Chunk.view k55 S A ([(⟨0, 255⟩ : S55)]).length c ([(⟨0, 255⟩ : S55)])] := by
 refine gw_start (N := 4) (vs := []) Tryz.func21 rfl rfl (by simp) fun a HF HO => ?_
 replace HO : Own w w [] := HO
 refine gR fun K1 hK1 => ?_
 refine gw_new HF HO (want_none rfl) rfl (by decide) (op_alloc gwzer26 rfl) ?_
 intro g2 _ w4 H5 O6; clear HF HO
 have O7 : Own w w4 [Bk g2 [J 0, .slice none 0 0, .slice none 0 0] 26] := O6
 clear O6
 refine gE hK1 ?_
 refine gR fun K8 hK8 => ?_
 refine V H5 (op_build (cells := #[.int .u8 0, .int .u8 255]) rfl (pt_cons (ev_c _ _) (pt_cons (ev_c _ _) pt_nil)) (by kernel_rfl)) ?_
 intro _ H10; clear H5
 refine gw_news (O := .cells #[.int .u8 0, .int .u8 255] 55 (0, 0)) (n := 1) H10 O7 (want_none rfl) rfl (by decide) (op_bslice (by kernel_rfl) rfl (pt_cons (H10.ev rfl) pt_nil)) ?_
 intro g11 _ w13 H14 O15; clear H10 O7
 have O16 : Own w w13 [Bk g11 [.int .u8 0, .int .u8 255] 55, Bk g2 [J 0, .slice none 0 0, .slice none 0 0] 26] := O15
 clear O15
 have O18 : Own w w13 [Chunk.view k55 (fun k_ => k_ = g11 ∨ Chunk.void.S k_) (some ⟨g11, 0, none⟩) (([(⟨0, 255⟩ : S55)]).length) (([(⟨0, 255⟩ : S55)]).length) ([(⟨0, 255⟩ : S55)]), Bk g2 [J 0, .slice none 0 0, .slice none 0 0] 26] := Own.lit_view (cs := [.int .u8 0, .int .u8 255]) (O16.void.sel [1, 0, 2] (by decide)) k55 [(⟨0, 255⟩ : S55)] (fun w_ h_ => reps_more (k55_mkF _ _ (⟨0, 255⟩ : S55)) rfl reps_none) (by simp [maxLen])
 clear O16
 refine V H14 (op_build (cells := #[J 1, .slice (some ⟨g11, 0, none⟩) (([(⟨0, 255⟩ : S55)]).length) (([(⟨0, 255⟩ : S55)]).length), .slice none 0 0]) rfl (pt_cons (ev_c _ _) (pt_cons (H14.ev rfl) pt_nil)) (by kernel_rfl)) ?_
 intro _ H20; clear H14
 refine gw_setn 1 H20 O18 rfl (want_none rfl) rfl (op_storen gwsiz26 rfl (H20.ev rfl) (H20.ev rfl) (O18.get 1 rfl) rfl (by simp) (by simp [Value.oneCell'])) ?_
 intro _ w23 H22 O24; clear H20 O18
 refine gE hK8 ?_
 refine wp_ret ?_
 refine gw_rets1 H22 rfl (rv_celln H22 rfl gwagg26 gwsiz26 (O24.get 1 rfl) rfl) ?_
 exact ⟨_, _, _, rfl, (O24.sel [0] (by decide)).out⟩
end GRefO_
export GRefO_ (rone_walk rall_walk)
theorem rclass_fork (w0 w : World) (R : Chunk) (s : ByteArray) (p0 : Int) (hp0 : 0 ≤ p0 ∧ p0 < s.size) (hs : s.size ≤ 256) (HO : Own w0 w [R]) :
    Calls Tryz.prog 22 #[.string s, .int .i64 p0] w fun e w' =>
      (∃ rs nt r A c S, classT (rest_ s (p0 + 1)) = .inl (rs, nt, r) ∧ rest_ s ((s.size : Int) - r.length) = r ∧ p0 + 1 ≤ (s.size : Int) - r.length ∧ (s.size : Int) - r.length ≤ s.size ∧ e = .returned (.tuple #[.agg #[.int .i64 1, .slice A (canonP fun c_ => inR rs c_ != nt).length c, .slice none 0 0], .int .i64 ((s.size : Int) - r.length), .int .i64 0, .int .i64 0]) ∧ Own w0 w' [R, Chunk.view k55 S A (canonP fun c_ => inR rs c_ != nt).length c (canonP fun c_ => inR rs c_ != nt)]) ∨
      (∃ e' m k n L A c S, classT (rest_ s (p0 + 1)) = .inr (e', m) ∧ e' ≠ 0 ∧ e = .returned (.tuple #[.agg #[.int .i64 k, .slice A (L : List RR).length c, .slice none 0 0], .int .i64 n, .int .i64 e', .int .i64 ((s.size : Int) - (m : Nat))]) ∧ Own w0 w' [R, Chunk.view k55 S A L.length c L]) := by
  refine (rclass_walk s p0 w hp0 hs).mono ?_
  rintro e w' ⟨k, n, ec, at_, L, A, c, S, rfl, hO, hQ⟩
  have h2 := (HO.fresh hO).sel [1, 0] (by decide)
  unfold clsQ at hQ
  cases hT : classT (rest_ s (p0 + 1)) with
  | inl v =>
    obtain ⟨rs, nt, r⟩ := v
    rw [hT] at hQ
    obtain ⟨rfl, rfl, rfl, rfl, rfl, h6, h7, h8⟩ := hQ
    exact .inl ⟨rs, nt, r, A, c, S, rfl, h6, h7, h8, rfl, h2⟩
  | inr v =>
    obtain ⟨e', m⟩ := v
    rw [hT] at hQ
    obtain ⟨rfl, h3, rfl⟩ := hQ
    exact .inr ⟨_, m, k, n, L, A, c, S, rfl, h3, rfl, h2⟩
end Go.Proofs.YtelbgmpeghhakaaGreat.PA
end
section
namespace Go.Proofs.YtelbgmpeghhakaaGreat.PA
open Go.RowKit Go.Proofs.YtelbgmpeghhakaaGreatW.PrintWords Go.Proofs.YtelbgmpeghhakaaGreatW.PrintLast Go.Proofs.YtelbgmpeghhakaaGreatW.PrintMore
set_option linter.unusedVariables false
set_option linter.unusedSimpArgs false
namespace GRefP_
theorem gwagg26 : ∀ w, (isAgg 26).run Tryz.prog w = .ok true w := fun _ => by kernel_rfl
theorem gwinfo26 : (Tryz.prog.info? 26).map (fun i => (i.zero, i.size, i.bytes)) = some (some (.agg #[.int .i64 0, .slice none 0 0, .slice none 0 0]), 3, 56) := by kernel_rfl
theorem gwsiz26 : ∀ w, (sizeOf 26).run Tryz.prog w = .ok 3 w := fun _ => by kernel_rfl
theorem gwzer26 : ∀ w, (zeroValue 26).run Tryz.prog w = .ok (.agg #[.int .i64 0, .slice none 0 0, .slice none 0 0]) w := fun _ => by kernel_rfl
set_option maxHeartbeats 4000000 in
set_option maxRecDepth 100000 in
theorem rParse_walk (s : ByteArray) (w : World) :
    Calls Tryz.prog 11 #[.string s] w fun e w' => ∃ A c S, e = .returned (.tuple #[.agg #[.int .i64 (parseG s).1, .slice none 0 0, .slice A (parseG s).2.1.length c], .int .i64 (parseG s).2.2.1, .int .i64 (parseG s).2.2.2]) ∧ Out w w' (fun _ => False) [Chunk.nrow k26 26 w.heap.size S (.slice A (parseG s).2.1.length c) (parseG s).2.1] := by
 refine gw_start (N := 84) (vs := [.string s]) Tryz.func11 rfl rfl (by simp) fun a HF HO => ?_
 replace HO : Own w w [] := HO
 refine gR fun K1 hK1 => ?_
 refine gw_new HF HO (want_none rfl) rfl (by decide) (op_alloc gwzer26 rfl) ?_
 intro g2 _ w4 H5 O6; clear HF HO
 have O7 : Own w w4 [Bk g2 [J 0, .slice none 0 0, .slice none 0 0] 26] := O6
 clear O6
 refine V H5 (op_assign rfl (ev_c _ _)) ?_
 intro _ H9; clear H5
 refine V H9 (op_assign rfl (ev_c _ _)) ?_
 intro _ H11; clear H9
 refine gE hK1 ?_
 refine gw_seq fun K12 hK12 => ?_
 refine gR fun K13 hK13 => ?_
 refine V H11 (op_move rfl (H11.ev rfl)) ?_
 intro _ H15; clear H11
 refine V H15 (op_lens Tryz.underlying9 rfl (H15.ev rfl)) ?_
 intro _ H17; clear H15
 refine V H17 (op_gtr rfl (H17.ev rfl) (ev_c _ _)) ?_
 intro _ H19; clear H17
 refine gE hK13 ?_
 refine gw_cond H19 rfl (fun hb20 => ?_) (fun hb20 => ?_)
 ·
  have H21 := H19.subst_ (d := 16) (b := true) rfl hb20
  clear H19
  (try simp only [decide_eq_true_eq] at hb20)
  refine gR fun K22 hK22 => ?_
  refine V H21 (op_build (cells := #[J 0, .slice none 0 0, .slice none 0 0]) rfl pt_nil (by kernel_rfl)) ?_
  intro _ H24; clear H21
  refine gw_setn 0 H24 O7 rfl (want_none rfl) rfl (op_storen gwsiz26 rfl (H24.ev rfl) (H24.ev rfl) (O7.get 0 rfl) rfl (by simp) (by simp [Value.oneCell'])) ?_
  intro _ w27 H26 O28; clear H24 O7
  refine V H26 (op_assign rfl (ev_c _ _)) ?_
  intro _ H30; clear H26
  refine V H30 (op_assign rfl (ev_c _ _)) ?_
  intro _ H32; clear H30
  refine gE hK22 ?_
  refine wp_ret ?_
  refine gw_thr ?_
  refine gw_rets3 H32 rfl (rv_celln H32 rfl gwagg26 gwsiz26 (O28.get 0 rfl) rfl) (rv_tmp H32 rfl) (rv_tmp H32 rfl) ?_
  rw [show parseG s = (0, [], 2, 0) from parseG_long (by assumption)]
  exact ⟨none, 0, _, rfl, ((O28.nrow_nil k26 26 w.heap.size).sel [0] (by decide)).out⟩
 ·
  have H33 := H19.subst_ (d := 16) (b := false) rfl hb20
  clear H19
  (try simp only [decide_eq_false_iff_not, Int.not_lt] at hb20)
  have hlong : ¬ 256 < (s.size : Int) := by omega
  have hs : s.size ≤ 256 := by omega
  obtain ⟨RES, hRES⟩ : ∃ R_ : ParRes, R_ = parseS (s.size + 1) (bytesOf s) [] := ⟨_, rfl⟩
  refine wp_skip ?_
  refine gw_nx (hK12 _ _ ?_)
  refine gR fun K34 hK34 => ?_
  refine gw_rlit0 k26 (e := 26) H33 O7 (want_none rfl) rfl (by decide) (op_bslice (by kernel_rfl) rfl pt_nil) ?_
  intro A35 S36 _ w38 H39 O40; clear H33 O7
  have O41 : Own w w38 [Chunk.row k26 26 w.heap.size S36 (.slice A35 (([] : List S26).length) 0) ([] : List S26), Bk g2 [J 0, .slice none 0 0, .slice none 0 0] 26] := O40
  clear O40
  have O42 := O41.row_nrow 0 rfl
  clear O41
  have O43 : Own w w38 [Chunk.nrow k26 26 w.heap.size S36 (.slice A35 (([] : List S26).length) 0) ([] : List S26), Bk g2 [J 0, .slice none 0 0, .slice none 0 0] 26] := O42
  clear O42
  refine V H39 (op_assign rfl (H39.ev rfl)) ?_
  intro _ H45; clear H39
  refine gE hK34 ?_
  refine gw_seq fun K46 hK46 => ?_
  refine gR fun K47 hK47 => ?_
  refine V H45 (op_assign rfl (ev_c _ _)) ?_
  intro _ H49; clear H45
  refine gE hK47 ?_
  refine wp_block ?_
  refine gw_loop (fun m_ a_ w_ => ∃ (p : Int) (kids : List S26) (Aa : Option Addr) (ca : Nat) (Sa : Nat → Prop), Fr 84 a_ [(6, J p), (5, .slice Aa kids.length ca), (0, .string s), (2, .pointer (some ⟨g2, 0, none⟩))] ∧ Own w w_ [Chunk.nrow k26 26 w.heap.size Sa (.slice Aa kids.length ca) kids, Bk g2 [J 0, .slice none 0 0, .slice none 0 0] 26] ∧ (0 ≤ p ∧ p ≤ s.size) ∧ ((kids.length : Int) ≤ p) ∧ (parK s RES p kids) ∧ m_ = (s.size - p.toNat)) ((s.size - (0 : Int).toNat)) ?_ ?_
  ·
   refine ⟨0, ([] : List S26), A35, _, _, (H49.pick (t := 6) rfl (H49.pick (t := 5) rfl (H49.pick (t := 0) rfl (H49.pick (t := 2) rfl H49.nil)))), O43.sel [0, 1] (by decide), ?_, ?_, ?_, rfl⟩
   ·
    omega
   ·
    show (0 : Int) ≤ 0; omega
   ·
    exact ⟨s.size + 1, by unfold rest_; rw [List.length_drop, bytesOf_length]; omega, hRES.symm⟩
  ·
   rintro m51 _ w53 ⟨p, kids, Aa, ca, Sa, H54, O55, hp, hkl, hD, hm56⟩
   rcases parK_in hp hD with ⟨hpe, hR⟩ | ⟨hpl, hb1, hR⟩ | ⟨x, q, r, k, hpl, hb1, hk, hR⟩; rotate_left 2; rcases byte_kind hp.1 hb1 with ⟨h92, hqt⟩ | ⟨hbx, hx92, hqf, hpn, hpr⟩; rotate_left 2
   ·
    refine gw_seq fun K57 hK57 => ?_
    refine gR fun K58 hK58 => ?_
    refine V H54 (op_move rfl (H54.ev rfl)) ?_
    intro _ H60; clear H54
    refine V H60 (op_move rfl (H60.ev rfl)) ?_
    intro _ H62; clear H60
    refine V H62 (op_lens Tryz.underlying9 rfl (H62.ev rfl)) ?_
    intro _ H64; clear H62
    refine V H64 (op_lss rfl (H64.ev rfl) (H64.ev rfl)) ?_
    intro _ H66; clear H64
    have H67 := H66.lit (b := false) (by rw [hpe]; simp)
    clear H66
    refine gE hK58 ?_
    refine gw_cond H67 rfl (fun hb68 => ?_) (fun hb68 => ?_)
    skip
    ·
     cases hb68
    refine wp_exit ?_
    refine gw_thx ?_
    refine gw_thx ?_
    refine gw_in ?_
    refine gw_nx (hK46 _ _ ?_)
    refine gR fun K69 hK69 => ?_
    refine V H67 (op_move rfl (H67.ev rfl)) ?_
    intro _ H71; clear H67
    refine V H71 (op_build (cells := #[J 2, .slice none 0 0, .slice Aa kids.length ca]) rfl (pt_cons (ev_c _ _) (pt_cons (H71.ev rfl) pt_nil)) (by kernel_rfl)) ?_
    intro _ H73; clear H71
    refine gw_setn 1 H73 O55 rfl (want_none rfl) rfl (op_storen gwsiz26 rfl (H73.ev rfl) (H73.ev rfl) (O55.get 1 rfl) rfl (by simp) (by simp [Value.oneCell'])) ?_
    intro _ w76 H75 O77; clear H73 O55
    refine V H75 (op_assign rfl (ev_c _ _)) ?_
    intro _ H79; clear H75
    refine V H79 (op_assign rfl (ev_c _ _)) ?_
    intro _ H81; clear H79
    refine gE hK69 ?_
    refine wp_ret ?_
    refine gw_rets3 H81 rfl (rv_celln H81 rfl gwagg26 gwsiz26 (O77.get 1 rfl) rfl) (rv_tmp H81 rfl) (rv_tmp H81 rfl) ?_
    rw [show parseG s = (2, kids, 0, 0) from parseG_ok hlong (hR.symm.trans hRES)]
    exact ⟨_, _, _, rfl, (O77.sel [0] (by decide)).out⟩
   ·
    have h92 := none_92 (by omega) hb1
    refine gw_seq fun K82 hK82 => ?_
    refine gR fun K83 hK83 => ?_
    refine V H54 (op_move rfl (H54.ev rfl)) ?_
    intro _ H85; clear H54
    refine V H85 (op_move rfl (H85.ev rfl)) ?_
    intro _ H87; clear H85
    refine V H87 (op_lens Tryz.underlying9 rfl (H87.ev rfl)) ?_
    intro _ H89; clear H87
    refine V H89 (op_lss rfl (H89.ev rfl) (H89.ev rfl)) ?_
    intro _ H91; clear H89
    have H92 := H91.lit (b := true) (by rw [decide_eq_true_eq]; exact hpl)
    clear H91
    refine gE hK83 ?_
    refine gw_cond H92 rfl (fun hb93 => ?_) (fun hb93 => ?_)
    rotate_left
    ·
     cases hb93
    refine wp_skip ?_
    refine gw_nx (hK82 _ _ ?_)
    refine wp_block ?_
    refine gR fun K94 hK94 => ?_
    refine V H92 (op_move rfl (H92.ev rfl)) ?_
    intro _ H96; clear H92
    refine V H96 (op_move rfl (H96.ev rfl)) ?_
    intro _ H98; clear H96
    refine V H98 (op_sidx Tryz.underlying9 rfl (H98.ev rfl) (H98.ev rfl) ⟨by omega, by omega⟩) ?_
    intro _ H100; clear H98
    refine gE hK94 ?_
    refine wp_block ?_
    refine gR fun K101 hK101 => ?_
    refine V H100 (op_eqi rfl (H100.ev rfl) (ev_c _ _)) ?_
    intro _ H103; clear H100
    have H104 := H103.lit (b := false) (by rw [h92]; rfl)
    clear H103
    refine V H104 (op_assign rfl (H104.ev rfl)) ?_
    intro _ H106; clear H104
    refine gE hK101 ?_
    refine gw_cond H106 rfl (fun hb107 => ?_) (fun hb107 => ?_)
    skip
    ·
     cases hb107
    refine gR fun K108 hK108 => ?_
    refine V H106 (op_eqi rfl (H106.ev rfl) (ev_c _ _)) ?_
    intro _ H110; clear H106
    have H111 := H110.lit (b := false) (by rw [h92]; rfl)
    clear H110
    refine V H111 (op_assign rfl (H111.ev rfl)) ?_
    intro _ H113; clear H111
    refine gE hK108 ?_
    refine gw_cond H113 rfl (fun hb114 => ?_) (fun hb114 => ?_)
    skip
    ·
     cases hb114
    refine gR fun K115 hK115 => ?_
    refine V H113 (op_eqi rfl (H113.ev rfl) (ev_c _ _)) ?_
    intro _ H117; clear H113
    have H118 := H117.lit (b := false) (by rw [h92]; rfl)
    clear H117
    refine V H118 (op_assign rfl (H118.ev rfl)) ?_
    intro _ H120; clear H118
    refine gE hK115 ?_
    refine gw_cond H120 rfl (fun hb121 => ?_) (fun hb121 => ?_)
    skip
    ·
     cases hb121
    refine gR fun K122 hK122 => ?_
    refine V H120 (op_move rfl (H120.ev rfl)) ?_
    intro _ H124; clear H120
    refine V H124 (op_move rfl (H124.ev rfl)) ?_
    intro _ H126; clear H124
    refine gw_call H126 (want_none rfl) rfl (by decide) (op_callL Tryz.func23 (by kernel_rfl) rfl rfl (ar_cons (H126.ev rfl) (ar_cons (H126.ev rfl) ar_nil))) (item_is s p _ (by omega) hs 0 0 false (item_none hb1)) ?_
    rintro e127 w128 ⟨rfl, hb129⟩
    refine ⟨_, rfl, fun _ H131 => ?_⟩
    have O132 := O55.after hb129
    clear H126 O55 hb129
    refine V H131 (op_move rfl (H131.ev rfl)) ?_
    intro _ H135; clear H131
    refine V H135 (op_extract rfl (H135.ev rfl) rfl) ?_
    intro _ H137; clear H135
    refine V H137 (op_extract rfl (H137.ev rfl) rfl) ?_
    intro _ H139; clear H137
    refine V H139 (op_extract rfl (H139.ev rfl) rfl) ?_
    intro _ H141; clear H139
    refine V H141 (op_assign rfl (H141.ev rfl)) ?_
    intro _ H143; clear H141
    refine V H143 (op_assign rfl (H143.ev rfl)) ?_
    intro _ H145; clear H143
    refine V H145 (op_assign rfl (H145.ev rfl)) ?_
    intro _ H147; clear H145
    refine gE hK122 ?_
    refine gw_seq fun K148 hK148 => ?_
    refine gR fun K149 hK149 => ?_
    refine V H147 (op_move rfl (H147.ev rfl)) ?_
    intro _ H151; clear H147
    refine V H151 (op_not rfl (H151.ev rfl)) ?_
    intro _ H153; clear H151
    refine gE hK149 ?_
    refine gw_cond H153 rfl (fun hb154 => ?_) (fun hb154 => ?_)
    rotate_left
    ·
     cases hb154
    refine gR fun K155 hK155 => ?_
    refine V H153 (op_build (cells := #[J 0, .slice none 0 0, .slice none 0 0]) rfl pt_nil (by kernel_rfl)) ?_
    intro _ H157; clear H153
    refine V H157 (op_move rfl (H157.ev rfl)) ?_
    intro _ H159; clear H157
    refine V H159 (op_lens Tryz.underlying9 rfl (H159.ev rfl)) ?_
    intro _ H161; clear H159
    refine gw_setn 1 H161 O132 rfl (want_none rfl) rfl (op_storen gwsiz26 rfl (H161.ev rfl) (H161.ev rfl) (O132.get 1 rfl) rfl (by simp) (by simp [Value.oneCell'])) ?_
    intro _ w164 H163 O165; clear H161 O132
    refine V H163 (op_assign rfl (ev_c _ _)) ?_
    intro _ H167; clear H163
    refine V H167 (op_assign rfl (H167.ev rfl)) ?_
    intro _ H169; clear H167
    refine gE hK155 ?_
    refine wp_ret ?_
    refine gw_thr ?_
    refine gw_blr ?_
    refine gw_blr ?_
    refine gw_thr ?_
    refine gw_blr ?_
    refine gw_thr ?_
    refine gw_rets3 H169 rfl (rv_celln H169 rfl gwagg26 gwsiz26 (O165.get 1 rfl) rfl) (rv_tmp H169 rfl) (rv_tmp H169 rfl) ?_
    rw [show parseG s = (0, [], 31, (s.size : Int)) from (parseG_bad (m := 0) hlong (hR.symm.trans hRES)).trans (by simp)]
    exact ⟨none, 0, _, rfl, ((O165.nrow_nil k26 26 w.heap.size).sel [0] (by decide)).out⟩
   ·
    unfold parB at hR
    rw [if_pos hqt] at hR
    obtain ⟨hrr, hp1, hp2⟩ := item_rest hp hs hb1
    refine gw_seq fun K170 hK170 => ?_
    refine gR fun K171 hK171 => ?_
    refine V H54 (op_move rfl (H54.ev rfl)) ?_
    intro _ H173; clear H54
    refine V H173 (op_move rfl (H173.ev rfl)) ?_
    intro _ H175; clear H173
    refine V H175 (op_lens Tryz.underlying9 rfl (H175.ev rfl)) ?_
    intro _ H177; clear H175
    refine V H177 (op_lss rfl (H177.ev rfl) (H177.ev rfl)) ?_
    intro _ H179; clear H177
    have H180 := H179.lit (b := true) (by rw [decide_eq_true_eq]; exact hpl)
    clear H179
    refine gE hK171 ?_
    refine gw_cond H180 rfl (fun hb181 => ?_) (fun hb181 => ?_)
    rotate_left
    ·
     cases hb181
    refine wp_skip ?_
    refine gw_nx (hK170 _ _ ?_)
    refine wp_block ?_
    refine gR fun K182 hK182 => ?_
    refine V H180 (op_move rfl (H180.ev rfl)) ?_
    intro _ H184; clear H180
    refine V H184 (op_move rfl (H184.ev rfl)) ?_
    intro _ H186; clear H184
    refine V H186 (op_sidx Tryz.underlying9 rfl (H186.ev rfl) (H186.ev rfl) ⟨by omega, by omega⟩) ?_
    intro _ H188; clear H186
    refine gE hK182 ?_
    refine wp_block ?_
    refine gR fun K189 hK189 => ?_
    refine V H188 (op_eqi rfl (H188.ev rfl) (ev_c _ _)) ?_
    intro _ H191; clear H188
    have H192 := H191.lit (b := false) (by rw [h92]; rfl)
    clear H191
    refine V H192 (op_assign rfl (H192.ev rfl)) ?_
    intro _ H194; clear H192
    refine gE hK189 ?_
    refine gw_cond H194 rfl (fun hb195 => ?_) (fun hb195 => ?_)
    skip
    ·
     cases hb195
    refine gR fun K196 hK196 => ?_
    refine V H194 (op_eqi rfl (H194.ev rfl) (ev_c _ _)) ?_
    intro _ H198; clear H194
    have H199 := H198.lit (b := false) (by rw [h92]; rfl)
    clear H198
    refine V H199 (op_assign rfl (H199.ev rfl)) ?_
    intro _ H201; clear H199
    refine gE hK196 ?_
    refine gw_cond H201 rfl (fun hb202 => ?_) (fun hb202 => ?_)
    skip
    ·
     cases hb202
    refine gR fun K203 hK203 => ?_
    refine V H201 (op_eqi rfl (H201.ev rfl) (ev_c _ _)) ?_
    intro _ H205; clear H201
    have H206 := H205.lit (b := false) (by rw [h92]; rfl)
    clear H205
    refine V H206 (op_assign rfl (H206.ev rfl)) ?_
    intro _ H208; clear H206
    refine gE hK203 ?_
    refine gw_cond H208 rfl (fun hb209 => ?_) (fun hb209 => ?_)
    skip
    ·
     cases hb209
    refine gR fun K210 hK210 => ?_
    refine V H208 (op_move rfl (H208.ev rfl)) ?_
    intro _ H212; clear H208
    refine V H212 (op_move rfl (H212.ev rfl)) ?_
    intro _ H214; clear H212
    refine gw_call H214 (want_none rfl) rfl (by decide) (op_callL Tryz.func23 (by kernel_rfl) rfl rfl (ar_cons (H214.ev rfl) (ar_cons (H214.ev rfl) ar_nil))) (item_is s p _ (by omega) hs x ((s.size : Int) - r.length) true (item_ok hb1)) ?_
    rintro e215 w216 ⟨rfl, hb217⟩
    refine ⟨_, rfl, fun _ H219 => ?_⟩
    have O220 := O55.after hb217
    clear H214 O55 hb217
    refine V H219 (op_move rfl (H219.ev rfl)) ?_
    intro _ H223; clear H219
    refine V H223 (op_extract rfl (H223.ev rfl) rfl) ?_
    intro _ H225; clear H223
    refine V H225 (op_extract rfl (H225.ev rfl) rfl) ?_
    intro _ H227; clear H225
    refine V H227 (op_extract rfl (H227.ev rfl) rfl) ?_
    intro _ H229; clear H227
    refine V H229 (op_assign rfl (H229.ev rfl)) ?_
    intro _ H231; clear H229
    refine V H231 (op_assign rfl (H231.ev rfl)) ?_
    intro _ H233; clear H231
    refine V H233 (op_assign rfl (H233.ev rfl)) ?_
    intro _ H235; clear H233
    refine gE hK210 ?_
    refine gw_seq fun K236 hK236 => ?_
    refine gR fun K237 hK237 => ?_
    refine V H235 (op_move rfl (H235.ev rfl)) ?_
    intro _ H239; clear H235
    refine V H239 (op_not rfl (H239.ev rfl)) ?_
    intro _ H241; clear H239
    refine gE hK237 ?_
    refine gw_cond H241 rfl (fun hb242 => ?_) (fun hb242 => ?_)
    skip
    ·
     cases hb242
    refine wp_skip ?_
    refine gw_nx (hK236 _ _ ?_)
    refine gR fun K243 hK243 => ?_
    refine V H241 (op_move rfl (H241.ev rfl)) ?_
    intro _ H245; clear H241
    refine V H245 (op_move rfl (H245.ev rfl)) ?_
    intro _ H247; clear H245
    refine gw_call H247 (want_none rfl) rfl (by decide) (op_callL Tryz.func24 (by kernel_rfl) rfl rfl (ar_cons (H247.ev rfl) ar_nil)) (rone_walk x _) ?_
    rintro e252 w253 ⟨A248, c249, S250, rfl, hb254⟩
    refine ⟨_, rfl, fun _ H256 => ?_⟩
    have O257 := O220.fresh hb254
    clear H247 O220 hb254
    refine gw_news (O := .cells #[J 1, .slice A248 (([(⟨x, x⟩ : S55)]).length) c249, .slice none 0 0] 26 (0, 0)) (n := 1) H256 O257 (want_none rfl) rfl (by decide) (op_bslice (by kernel_rfl) rfl (pt_cons (H256.ev rfl) pt_nil)) ?_
    intro g259 _ w261 H262 O263; clear H256 O257
    have O264 : Own w w261 [Bk g259 [J 1, .slice A248 (([(⟨x, x⟩ : S55)]).length) c249, .slice none 0 0] 26, Chunk.view k55 S250 A248 (([(⟨x, x⟩ : S55)]).length) c249 ([(⟨x, x⟩ : S55)]), Chunk.nrow k26 26 w.heap.size Sa (.slice Aa kids.length ca) kids, Bk g2 [J 0, .slice none 0 0, .slice none 0 0] 26] := O263
    clear O263
    have O265 : Own w w261 [Chunk.view k26 (fun k_ => k_ = g259 ∨ S250 k_) (some ⟨g259, 0, none⟩) (([(⟨1, ([(⟨x, x⟩ : S55)]), []⟩ : S26)]).length) (([(⟨1, ([(⟨x, x⟩ : S55)]), []⟩ : S26)]).length) ([(⟨1, ([(⟨x, x⟩ : S55)]), []⟩ : S26)]), Chunk.nrow k26 26 w.heap.size Sa (.slice Aa kids.length ca) kids, Bk g2 [J 0, .slice none 0 0, .slice none 0 0] 26] := Own.lit_view (cs := [J 1, .slice A248 (([(⟨x, x⟩ : S55)]).length) c249, .slice none 0 0]) (O264.sel [0, 1, 2, 3] (by decide)) k26 [(⟨1, ([(⟨x, x⟩ : S55)]), []⟩ : S26)] (fun w_ h_ => reps_more (k26_mkF _ _ (⟨1, ([(⟨x, x⟩ : S55)]), []⟩ : S26) h_.2.1 h_.1 (Nat.le_refl _) (Kd.F_nil _ _ _)) rfl reps_none) (by simp [maxLen])
    clear O264
    have O267 : Own w w261 [Chunk.nrow k26 26 w.heap.size Sa (.slice Aa kids.length ca) kids, Chunk.view k26 (fun k_ => k_ = g259 ∨ S250 k_) (some ⟨g259, 0, none⟩) (([(⟨1, ([(⟨x, x⟩ : S55)]), []⟩ : S26)]).length) (([(⟨1, ([(⟨x, x⟩ : S55)]), []⟩ : S26)]).length) ([(⟨1, ([(⟨x, x⟩ : S55)]), []⟩ : S26)]), Bk g2 [J 0, .slice none 0 0, .slice none 0 0] 26] := O265.sel [1, 0, 2] (by decide)
    refine gw_nappend k26 (ys := [(⟨1, ([(⟨x, x⟩ : S55)]), []⟩ : S26)]) H262 O267 (want_none rfl) rfl (by decide) rfl Tryz.underlying24 gwinfo26 rfl (by decide) (by decide) (H262.ev rfl) (H262.ev rfl) (fun w_ h_ => h_.1) O267.below.size (by omega) ?_
    intro A268 c269 S270 _ w272 H273 O274; clear H262 O265 O267
    have O275 : Own w w272 [Chunk.nrow k26 26 w.heap.size S270 (.slice A268 ((kids ++ [(⟨1, ([(⟨x, x⟩ : S55)]), []⟩ : S26)]).length) c269) (kids ++ [(⟨1, ([(⟨x, x⟩ : S55)]), []⟩ : S26)]), Bk g2 [J 0, .slice none 0 0, .slice none 0 0] 26] := O274
    clear O274
    refine V H273 (op_assign rfl (H273.ev rfl)) ?_
    intro _ H277; clear H273
    refine gE hK243 ?_
    refine wp_region_lit ?_
    refine V H277 (op_move rfl (H277.ev rfl)) ?_
    intro _ H279; clear H277
    refine V H279 (op_assign rfl (H279.ev rfl)) ?_
    intro _ H281; clear H279
    refine wpList_nil ?_
    refine gw_blk ?_
    refine gw_blk ?_
    refine gw_nx ⟨_, ?_, ((s.size : Int) - r.length), (kids ++ [(⟨1, ([(⟨x, x⟩ : S55)]), []⟩ : S26)]), A268, _, _, (H281.pick (t := 6) rfl (H281.pick (t := 5) rfl (H281.pick (t := 0) rfl (H281.pick (t := 2) rfl H281.nil)))), O275.sel [0, 1] (by decide), ?_, ?_, ?_, rfl⟩
    ·
     rw [hm56]; omega
    ·
     omega
    ·
     rw [List.length_append, List.length_singleton]; omega
    ·
     exact ⟨k, by rw [hrr]; exact hk, by rw [hrr]; exact hR.symm⟩
   ·
    unfold parB at hR
    rw [if_neg (by rw [hqf]; simp)] at hR
    obtain ⟨hrr, hp1, hp2⟩ := item_rest hp hs hb1
    refine gw_seq fun K282 hK282 => ?_
    refine gR fun K283 hK283 => ?_
    refine V H54 (op_move rfl (H54.ev rfl)) ?_
    intro _ H285; clear H54
    refine V H285 (op_move rfl (H285.ev rfl)) ?_
    intro _ H287; clear H285
    refine V H287 (op_lens Tryz.underlying9 rfl (H287.ev rfl)) ?_
    intro _ H289; clear H287
    refine V H289 (op_lss rfl (H289.ev rfl) (H289.ev rfl)) ?_
    intro _ H291; clear H289
    have H292 := H291.lit (b := true) (by rw [decide_eq_true_eq]; exact hpl)
    clear H291
    refine gE hK283 ?_
    refine gw_cond H292 rfl (fun hb293 => ?_) (fun hb293 => ?_)
    rotate_left
    ·
     cases hb293
    refine wp_skip ?_
    refine gw_nx (hK282 _ _ ?_)
    refine wp_block ?_
    refine gR fun K294 hK294 => ?_
    refine V H292 (op_move rfl (H292.ev rfl)) ?_
    intro _ H296; clear H292
    refine V H296 (op_move rfl (H296.ev rfl)) ?_
    intro _ H298; clear H296
    refine V H298 (op_sidx Tryz.underlying9 rfl (H298.ev rfl) (H298.ev rfl) ⟨by omega, by omega⟩) ?_
    intro _ H300; clear H298
    refine gE hK294 ?_
    refine wp_block ?_
    refine gR fun K301 hK301 => ?_
    refine V H300 (op_eqi rfl (H300.ev rfl) (ev_c _ _)) ?_
    intro _ H303; clear H300
    refine V H303 (op_assign rfl (H303.ev rfl)) ?_
    intro _ H305; clear H303
    refine gE hK301 ?_
    refine gw_cond H305 rfl (fun hb306 => ?_) (fun hb306 => ?_)
    ·
     have H307 := H305.subst_ (d := 44) (b := true) rfl hb306
     clear H305
     (try simp only [decide_eq_true_eq] at hb306)
     rw [if_pos (hbx ▸ hb306)] at hR
     refine gR fun K308 hK308 => ?_
     refine V H307 (op_move rfl (H307.ev rfl)) ?_
     intro _ H310; clear H307
     refine gw_call H310 (want_none rfl) rfl (by decide) (op_callL Tryz.func21 (by kernel_rfl) rfl rfl ar_nil) (rall_walk _) ?_
     rintro e315 w316 ⟨A311, c312, S313, rfl, hb317⟩
     refine ⟨_, rfl, fun _ H319 => ?_⟩
     have O320 := O55.fresh hb317
     clear H310 O55 hb317
     refine gw_news (O := .cells #[J 1, .slice A311 (([(⟨0, 255⟩ : S55)]).length) c312, .slice none 0 0] 26 (0, 0)) (n := 1) H319 O320 (want_none rfl) rfl (by decide) (op_bslice (by kernel_rfl) rfl (pt_cons (H319.ev rfl) pt_nil)) ?_
     intro g322 _ w324 H325 O326; clear H319 O320
     have O327 : Own w w324 [Bk g322 [J 1, .slice A311 (([(⟨0, 255⟩ : S55)]).length) c312, .slice none 0 0] 26, Chunk.view k55 S313 A311 (([(⟨0, 255⟩ : S55)]).length) c312 ([(⟨0, 255⟩ : S55)]), Chunk.nrow k26 26 w.heap.size Sa (.slice Aa kids.length ca) kids, Bk g2 [J 0, .slice none 0 0, .slice none 0 0] 26] := O326
     clear O326
     have O328 : Own w w324 [Chunk.view k26 (fun k_ => k_ = g322 ∨ S313 k_) (some ⟨g322, 0, none⟩) (([(⟨1, ([(⟨0, 255⟩ : S55)]), []⟩ : S26)]).length) (([(⟨1, ([(⟨0, 255⟩ : S55)]), []⟩ : S26)]).length) ([(⟨1, ([(⟨0, 255⟩ : S55)]), []⟩ : S26)]), Chunk.nrow k26 26 w.heap.size Sa (.slice Aa kids.length ca) kids, Bk g2 [J 0, .slice none 0 0, .slice none 0 0] 26] := Own.lit_view (cs := [J 1, .slice A311 (([(⟨0, 255⟩ : S55)]).length) c312, .slice none 0 0]) (O327.sel [0, 1, 2, 3] (by decide)) k26 [(⟨1, ([(⟨0, 255⟩ : S55)]), []⟩ : S26)] (fun w_ h_ => reps_more (k26_mkF _ _ (⟨1, ([(⟨0, 255⟩ : S55)]), []⟩ : S26) h_.2.1 h_.1 (Nat.le_refl _) (Kd.F_nil _ _ _)) rfl reps_none) (by simp [maxLen])
     clear O327
     have O330 : Own w w324 [Chunk.nrow k26 26 w.heap.size Sa (.slice Aa kids.length ca) kids, Chunk.view k26 (fun k_ => k_ = g322 ∨ S313 k_) (some ⟨g322, 0, none⟩) (([(⟨1, ([(⟨0, 255⟩ : S55)]), []⟩ : S26)]).length) (([(⟨1, ([(⟨0, 255⟩ : S55)]), []⟩ : S26)]).length) ([(⟨1, ([(⟨0, 255⟩ : S55)]), []⟩ : S26)]), Bk g2 [J 0, .slice none 0 0, .slice none 0 0] 26] := O328.sel [1, 0, 2] (by decide)
     refine gw_nappend k26 (ys := [(⟨1, ([(⟨0, 255⟩ : S55)]), []⟩ : S26)]) H325 O330 (want_none rfl) rfl (by decide) rfl Tryz.underlying24 gwinfo26 rfl (by decide) (by decide) (H325.ev rfl) (H325.ev rfl) (fun w_ h_ => h_.1) O330.below.size (by omega) ?_
     intro A331 c332 S333 _ w335 H336 O337; clear H325 O328 O330
     have O338 : Own w w335 [Chunk.nrow k26 26 w.heap.size S333 (.slice A331 ((kids ++ [(⟨1, ([(⟨0, 255⟩ : S55)]), []⟩ : S26)]).length) c332) (kids ++ [(⟨1, ([(⟨0, 255⟩ : S55)]), []⟩ : S26)]), Bk g2 [J 0, .slice none 0 0, .slice none 0 0] 26] := O337
     clear O337
     refine V H336 (op_assign rfl (H336.ev rfl)) ?_
     intro _ H340; clear H336
     refine gE hK308 ?_
     refine wp_region_lit ?_
     refine V H340 (op_move rfl (H340.ev rfl)) ?_
     intro _ H342; clear H340
     refine V H342 (op_add rfl (H342.ev rfl) (ev_c _ _) (by omega)) ?_
     intro _ H344; clear H342
     refine V H344 (op_assign rfl (H344.ev rfl)) ?_
     intro _ H346; clear H344
     refine wpList_nil ?_
     refine gw_blk ?_
     refine gw_blk ?_
     refine gw_nx ⟨_, ?_, p + 1, (kids ++ [(⟨1, ([(⟨0, 255⟩ : S55)]), []⟩ : S26)]), A331, _, _, (H346.pick (t := 6) rfl (H346.pick (t := 5) rfl (H346.pick (t := 0) rfl (H346.pick (t := 2) rfl H346.nil)))), O338.sel [0, 1] (by decide), ?_, ?_, ?_, rfl⟩
     ·
      rw [hm56]; omega
     ·
      omega
     ·
      rw [List.length_append, List.length_singleton]; omega
     ·
      exact ⟨k, by rw [hpr]; exact hk, by rw [hpr]; exact hR.symm⟩
    ·
     have H347 := H305.subst_ (d := 44) (b := false) rfl hb306
     clear H305
     (try simp only [decide_eq_false_iff_not] at hb306)
     rw [if_neg (fun h_ => hb306 (hbx.trans h_))] at hR
     refine gR fun K348 hK348 => ?_
     refine V H347 (op_eqi rfl (H347.ev rfl) (ev_c _ _)) ?_
     intro _ H350; clear H347
     refine V H350 (op_assign rfl (H350.ev rfl)) ?_
     intro _ H352; clear H350
     refine gE hK348 ?_
     refine gw_cond H352 rfl (fun hb353 => ?_) (fun hb353 => ?_)
     ·
      have H354 := H352.subst_ (d := 52) (b := true) rfl hb353
      clear H352
      (try simp only [decide_eq_true_eq] at hb353)
      rw [if_pos (hbx ▸ hb353)] at hR
      refine gR fun K355 hK355 => ?_
      refine V H354 (op_move rfl (H354.ev rfl)) ?_
      intro _ H357; clear H354
      refine gw_call H357 (want_none rfl) rfl (by decide) (op_callL Tryz.func21 (by kernel_rfl) rfl rfl ar_nil) (rall_walk _) ?_
      rintro e362 w363 ⟨A358, c359, S360, rfl, hb364⟩
      refine ⟨_, rfl, fun _ H366 => ?_⟩
      have O367 := O55.fresh hb364
      clear H357 O55 hb364
      refine gw_news (O := .cells #[J 1, .slice A358 (([(⟨0, 255⟩ : S55)]).length) c359, .slice none 0 0] 26 (0, 0)) (n := 1) H366 O367 (want_none rfl) rfl (by decide) (op_bslice (by kernel_rfl) rfl (pt_cons (H366.ev rfl) pt_nil)) ?_
      intro g369 _ w371 H372 O373; clear H366 O367
      have O374 : Own w w371 [Bk g369 [J 1, .slice A358 (([(⟨0, 255⟩ : S55)]).length) c359, .slice none 0 0] 26, Chunk.view k55 S360 A358 (([(⟨0, 255⟩ : S55)]).length) c359 ([(⟨0, 255⟩ : S55)]), Chunk.nrow k26 26 w.heap.size Sa (.slice Aa kids.length ca) kids, Bk g2 [J 0, .slice none 0 0, .slice none 0 0] 26] := O373
      clear O373
      have O375 : Own w w371 [Chunk.view k26 (fun k_ => k_ = g369 ∨ S360 k_) (some ⟨g369, 0, none⟩) (([(⟨1, ([(⟨0, 255⟩ : S55)]), []⟩ : S26)]).length) (([(⟨1, ([(⟨0, 255⟩ : S55)]), []⟩ : S26)]).length) ([(⟨1, ([(⟨0, 255⟩ : S55)]), []⟩ : S26)]), Chunk.nrow k26 26 w.heap.size Sa (.slice Aa kids.length ca) kids, Bk g2 [J 0, .slice none 0 0, .slice none 0 0] 26] := Own.lit_view (cs := [J 1, .slice A358 (([(⟨0, 255⟩ : S55)]).length) c359, .slice none 0 0]) (O374.sel [0, 1, 2, 3] (by decide)) k26 [(⟨1, ([(⟨0, 255⟩ : S55)]), []⟩ : S26)] (fun w_ h_ => reps_more (k26_mkF _ _ (⟨1, ([(⟨0, 255⟩ : S55)]), []⟩ : S26) h_.2.1 h_.1 (Nat.le_refl _) (Kd.F_nil _ _ _)) rfl reps_none) (by simp [maxLen])
      clear O374
      refine V H372 (op_build (cells := #[J 4, .slice none 0 0, .slice (some ⟨g369, 0, none⟩) (([(⟨1, ([(⟨0, 255⟩ : S55)]), []⟩ : S26)]).length) (([(⟨1, ([(⟨0, 255⟩ : S55)]), []⟩ : S26)]).length)]) rfl (pt_cons (ev_c _ _) (pt_cons (H372.ev rfl) pt_nil)) (by kernel_rfl)) ?_
      intro _ H378; clear H372
      refine gw_news (O := .cells #[J 4, .slice none 0 0, .slice (some ⟨g369, 0, none⟩) (([(⟨1, ([(⟨0, 255⟩ : S55)]), []⟩ : S26)]).length) (([(⟨1, ([(⟨0, 255⟩ : S55)]), []⟩ : S26)]).length)] 26 (0, 0)) (n := 1) H378 O375 (want_none rfl) rfl (by decide) (op_bslice (by kernel_rfl) rfl (pt_cons (H378.ev rfl) pt_nil)) ?_
      intro g379 _ w381 H382 O383; clear H378 O375
      have O384 : Own w w381 [Bk g379 [J 4, .slice none 0 0, .slice (some ⟨g369, 0, none⟩) (([(⟨1, ([(⟨0, 255⟩ : S55)]), []⟩ : S26)]).length) (([(⟨1, ([(⟨0, 255⟩ : S55)]), []⟩ : S26)]).length)] 26, Chunk.view k26 (fun k_ => k_ = g369 ∨ S360 k_) (some ⟨g369, 0, none⟩) (([(⟨1, ([(⟨0, 255⟩ : S55)]), []⟩ : S26)]).length) (([(⟨1, ([(⟨0, 255⟩ : S55)]), []⟩ : S26)]).length) ([(⟨1, ([(⟨0, 255⟩ : S55)]), []⟩ : S26)]), Chunk.nrow k26 26 w.heap.size Sa (.slice Aa kids.length ca) kids, Bk g2 [J 0, .slice none 0 0, .slice none 0 0] 26] := O383
      clear O383
      have O385 : Own w w381 [Chunk.view k26 (fun k_ => k_ = g379 ∨ (fun k_ => k_ = g369 ∨ S360 k_) k_) (some ⟨g379, 0, none⟩) (([(⟨4, [], [(⟨1, ([(⟨0, 255⟩ : S55)]), []⟩ : S26)]⟩ : S26)]).length) (([(⟨4, [], [(⟨1, ([(⟨0, 255⟩ : S55)]), []⟩ : S26)]⟩ : S26)]).length) ([(⟨4, [], [(⟨1, ([(⟨0, 255⟩ : S55)]), []⟩ : S26)]⟩ : S26)]), Chunk.nrow k26 26 w.heap.size Sa (.slice Aa kids.length ca) kids, Bk g2 [J 0, .slice none 0 0, .slice none 0 0] 26] := Own.lit_view (cs := [J 4, .slice none 0 0, .slice (some ⟨g369, 0, none⟩) (([(⟨1, ([(⟨0, 255⟩ : S55)]), []⟩ : S26)]).length) (([(⟨1, ([(⟨0, 255⟩ : S55)]), []⟩ : S26)]).length)]) (O384.sel [0, 1, 2, 3] (by decide)) k26 [(⟨4, [], [(⟨1, ([(⟨0, 255⟩ : S55)]), []⟩ : S26)]⟩ : S26)] (fun w_ h_ => reps_more (k26_mkF _ _ (⟨4, [], [(⟨1, ([(⟨0, 255⟩ : S55)]), []⟩ : S26)]⟩ : S26) (Nat.le_refl _) (Kd.F_nil _ _ _) h_.2.1 h_.1) rfl reps_none) (by simp [maxLen])
      clear O384
      have O387 : Own w w381 [Chunk.nrow k26 26 w.heap.size Sa (.slice Aa kids.length ca) kids, Chunk.view k26 (fun k_ => k_ = g379 ∨ (fun k_ => k_ = g369 ∨ S360 k_) k_) (some ⟨g379, 0, none⟩) (([(⟨4, [], [(⟨1, ([(⟨0, 255⟩ : S55)]), []⟩ : S26)]⟩ : S26)]).length) (([(⟨4, [], [(⟨1, ([(⟨0, 255⟩ : S55)]), []⟩ : S26)]⟩ : S26)]).length) ([(⟨4, [], [(⟨1, ([(⟨0, 255⟩ : S55)]), []⟩ : S26)]⟩ : S26)]), Bk g2 [J 0, .slice none 0 0, .slice none 0 0] 26] := O385.sel [1, 0, 2] (by decide)
      refine gw_nappend k26 (ys := [(⟨4, [], [(⟨1, ([(⟨0, 255⟩ : S55)]), []⟩ : S26)]⟩ : S26)]) H382 O387 (want_none rfl) rfl (by decide) rfl Tryz.underlying24 gwinfo26 rfl (by decide) (by decide) (H382.ev rfl) (H382.ev rfl) (fun w_ h_ => h_.1) O387.below.size (by omega) ?_
      intro A388 c389 S390 _ w392 H393 O394; clear H382 O385 O387
      have O395 : Own w w392 [Chunk.nrow k26 26 w.heap.size S390 (.slice A388 ((kids ++ [(⟨4, [], [(⟨1, ([(⟨0, 255⟩ : S55)]), []⟩ : S26)]⟩ : S26)]).length) c389) (kids ++ [(⟨4, [], [(⟨1, ([(⟨0, 255⟩ : S55)]), []⟩ : S26)]⟩ : S26)]), Bk g2 [J 0, .slice none 0 0, .slice none 0 0] 26] := O394
      clear O394
      refine V H393 (op_assign rfl (H393.ev rfl)) ?_
      intro _ H397; clear H393
      refine gE hK355 ?_
      refine wp_region_lit ?_
      refine V H397 (op_move rfl (H397.ev rfl)) ?_
      intro _ H399; clear H397
      refine V H399 (op_add rfl (H399.ev rfl) (ev_c _ _) (by omega)) ?_
      intro _ H401; clear H399
      refine V H401 (op_assign rfl (H401.ev rfl)) ?_
      intro _ H403; clear H401
      refine wpList_nil ?_
      refine gw_blk ?_
      refine gw_blk ?_
      refine gw_nx ⟨_, ?_, p + 1, (kids ++ [(⟨4, [], [(⟨1, ([(⟨0, 255⟩ : S55)]), []⟩ : S26)]⟩ : S26)]), A388, _, _, (H403.pick (t := 6) rfl (H403.pick (t := 5) rfl (H403.pick (t := 0) rfl (H403.pick (t := 2) rfl H403.nil)))), O395.sel [0, 1] (by decide), ?_, ?_, ?_, rfl⟩
      ·
       rw [hm56]; omega
      ·
       omega
      ·
       rw [List.length_append, List.length_singleton]; omega
      ·
       exact ⟨k, by rw [hpr]; exact hk, by rw [hpr]; exact hR.symm⟩
     ·
      have H404 := H352.subst_ (d := 52) (b := false) rfl hb353
      clear H352
      (try simp only [decide_eq_false_iff_not] at hb353)
      rw [if_neg (fun h_ => hb353 (hbx.trans h_))] at hR
      refine gR fun K405 hK405 => ?_
      refine V H404 (op_eqi rfl (H404.ev rfl) (ev_c _ _)) ?_
      intro _ H407; clear H404
      refine V H407 (op_assign rfl (H407.ev rfl)) ?_
      intro _ H409; clear H407
      refine gE hK405 ?_
      refine gw_cond H409 rfl (fun hb410 => ?_) (fun hb410 => ?_)
      ·
       have H411 := H409.subst_ (d := 62) (b := true) rfl hb410
       clear H409
       (try simp only [decide_eq_true_eq] at hb410)
       rw [if_pos (hbx ▸ hb410)] at hR
       refine gR fun K412 hK412 => ?_
       refine V H411 (op_move rfl (H411.ev rfl)) ?_
       intro _ H414; clear H411
       refine V H414 (op_move rfl (H414.ev rfl)) ?_
       intro _ H416; clear H414
       have O436 : Own w _ [(Chunk.all [Chunk.nrow k26 26 w.heap.size Sa (.slice Aa kids.length ca) kids, Bk g2 [J 0, .slice none 0 0, .slice none 0 0] 26])] := Own.bundle (O55.sel [0, 1] (by decide))
       refine gw_call H416 (want_none rfl) rfl (by decide) (op_callL Tryz.func22 (by kernel_rfl) rfl rfl (ar_cons (H416.ev rfl) (ar_cons (H416.ev rfl) ar_nil))) (rclass_fork w _ (Chunk.all [Chunk.nrow k26 26 w.heap.size Sa (.slice Aa kids.length ca) kids, Bk g2 [J 0, .slice none 0 0, .slice none 0 0] 26]) s p (by omega) hs (by exact O436)) ?_
       rintro e430 w431 (⟨rs418, nt419, r2420, A421, c422, S423, hT, hrr2, hp3, hp4, rfl, hb432⟩ | ⟨e2424, m417, k426, n427, L425, A421, c422, S423, hT, he0, rfl, hb432⟩)
       ·
        refine ⟨_, rfl, fun _ H434 => ?_⟩
        have O435 : Own w w431 [Chunk.nrow k26 26 w.heap.size Sa (.slice Aa kids.length ca) kids, Bk g2 [J 0, .slice none 0 0, .slice none 0 0] 26, Chunk.view k55 S423 A421 (((canonP fun c_ => inR rs418 c_ != nt419)).length) c422 (canonP fun c_ => inR rs418 c_ != nt419)] := Own.unbundle (A := [Chunk.nrow k26 26 w.heap.size Sa (.slice Aa kids.length ca) kids, Bk g2 [J 0, .slice none 0 0, .slice none 0 0] 26]) (L := [Chunk.view k55 S423 A421 (((canonP fun c_ => inR rs418 c_ != nt419)).length) c422 (canonP fun c_ => inR rs418 c_ != nt419)]) hb432
        clear O436 hb432
        clear H416 O55
        rw [← hpr, hT] at hR
        simp only at hR
        refine V H434 (op_move rfl (H434.ev rfl)) ?_
        intro _ H438; clear H434
        refine V H438 (op_extract rfl (H438.ev rfl) rfl) ?_
        intro _ H440; clear H438
        refine V H440 (op_extract rfl (H440.ev rfl) rfl) ?_
        intro _ H442; clear H440
        refine V H442 (op_extract rfl (H442.ev rfl) rfl) ?_
        intro _ H444; clear H442
        refine V H444 (op_extract rfl (H444.ev rfl) rfl) ?_
        intro _ H446; clear H444
        refine gw_new H446 O435 (want_none rfl) rfl (by decide) (op_alloc gwzer26 rfl) ?_
        intro g447 _ w449 H450 O451; clear H446 O435
        have O452 : Own w w449 [Bk g447 [J 0, .slice none 0 0, .slice none 0 0] 26, Chunk.nrow k26 26 w.heap.size Sa (.slice Aa kids.length ca) kids, Bk g2 [J 0, .slice none 0 0, .slice none 0 0] 26, Chunk.view k55 S423 A421 (((canonP fun c_ => inR rs418 c_ != nt419)).length) c422 (canonP fun c_ => inR rs418 c_ != nt419)] := O451
        clear O451
        refine gw_setn 0 H450 O452 rfl (want_none rfl) rfl (op_storen gwsiz26 rfl (H450.ev rfl) (H450.ev rfl) (O452.get 0 rfl) rfl (by simp) (by simp [Value.oneCell'])) ?_
        intro _ w455 H454 O456; clear H450 O452
        refine V H454 (op_assign rfl (H454.ev rfl)) ?_
        intro _ H458; clear H454
        refine V H458 (op_assign rfl (H458.ev rfl)) ?_
        intro _ H460; clear H458
        refine V H460 (op_assign rfl (H460.ev rfl)) ?_
        intro _ H462; clear H460
        refine gE hK412 ?_
        refine gw_seq fun K463 hK463 => ?_
        refine gR fun K464 hK464 => ?_
        refine V H462 (op_move rfl (H462.ev rfl)) ?_
        intro _ H466; clear H462
        refine V H466 (op_nei rfl (H466.ev rfl) (ev_c _ _)) ?_
        intro _ H468; clear H466
        have H469 := H468.lit (b := false) (by decide)
        clear H468
        refine gE hK464 ?_
        refine gw_cond H469 rfl (fun hb470 => ?_) (fun hb470 => ?_)
        skip
        ·
         cases hb470
        refine wp_skip ?_
        refine gw_nx (hK463 _ _ ?_)
        refine gR fun K471 hK471 => ?_
        refine V H469 (op_move rfl (H469.ev rfl)) ?_
        intro _ H473; clear H469
        refine V H473 (op_loadn gwagg26 gwsiz26 rfl (H473.ev rfl) (O456.get 0 rfl) rfl rfl) ?_
        intro _ H475; clear H473
        refine gw_news (O := .cells #[J 1, .slice A421 (((canonP fun c_ => inR rs418 c_ != nt419)).length) c422, .slice none 0 0] 26 (0, 0)) (n := 1) H475 O456 (want_none rfl) rfl (by decide) (op_bslice (by kernel_rfl) rfl (pt_cons (H475.ev rfl) pt_nil)) ?_
        intro g476 _ w478 H479 O480; clear H475 O456
        have O481 : Own w w478 [Bk g476 [J 1, .slice A421 (((canonP fun c_ => inR rs418 c_ != nt419)).length) c422, .slice none 0 0] 26, Bk g447 [J 1, .slice A421 (((canonP fun c_ => inR rs418 c_ != nt419)).length) c422, .slice none 0 0] 26, Chunk.nrow k26 26 w.heap.size Sa (.slice Aa kids.length ca) kids, Bk g2 [J 0, .slice none 0 0, .slice none 0 0] 26, Chunk.view k55 S423 A421 (((canonP fun c_ => inR rs418 c_ != nt419)).length) c422 (canonP fun c_ => inR rs418 c_ != nt419)] := O480
        clear O480
        have O482 : Own w w478 [Chunk.view k26 (fun k_ => k_ = g476 ∨ S423 k_) (some ⟨g476, 0, none⟩) (([(⟨1, (canonP fun c_ => inR rs418 c_ != nt419), []⟩ : S26)]).length) (([(⟨1, (canonP fun c_ => inR rs418 c_ != nt419), []⟩ : S26)]).length) ([(⟨1, (canonP fun c_ => inR rs418 c_ != nt419), []⟩ : S26)]), Bk g447 [J 1, .slice A421 (((canonP fun c_ => inR rs418 c_ != nt419)).length) c422, .slice none 0 0] 26, Chunk.nrow k26 26 w.heap.size Sa (.slice Aa kids.length ca) kids, Bk g2 [J 0, .slice none 0 0, .slice none 0 0] 26] := Own.lit_view (cs := [J 1, .slice A421 (((canonP fun c_ => inR rs418 c_ != nt419)).length) c422, .slice none 0 0]) (O481.sel [0, 4, 1, 2, 3] (by decide)) k26 [(⟨1, (canonP fun c_ => inR rs418 c_ != nt419), []⟩ : S26)] (fun w_ h_ => reps_more (k26_mkF _ _ (⟨1, (canonP fun c_ => inR rs418 c_ != nt419), []⟩ : S26) h_.2.1 h_.1 (Nat.le_refl _) (Kd.F_nil _ _ _)) rfl reps_none) (by simp [maxLen])
        clear O481
        have O484 : Own w w478 [Chunk.nrow k26 26 w.heap.size Sa (.slice Aa kids.length ca) kids, Chunk.view k26 (fun k_ => k_ = g476 ∨ S423 k_) (some ⟨g476, 0, none⟩) (([(⟨1, (canonP fun c_ => inR rs418 c_ != nt419), []⟩ : S26)]).length) (([(⟨1, (canonP fun c_ => inR rs418 c_ != nt419), []⟩ : S26)]).length) ([(⟨1, (canonP fun c_ => inR rs418 c_ != nt419), []⟩ : S26)]), Bk g447 [J 1, .slice A421 (((canonP fun c_ => inR rs418 c_ != nt419)).length) c422, .slice none 0 0] 26, Bk g2 [J 0, .slice none 0 0, .slice none 0 0] 26] := O482.sel [2, 0, 1, 3] (by decide)
        refine gw_nappend k26 (ys := [(⟨1, (canonP fun c_ => inR rs418 c_ != nt419), []⟩ : S26)]) H479 O484 (want_none rfl) rfl (by decide) rfl Tryz.underlying24 gwinfo26 rfl (by decide) (by decide) (H479.ev rfl) (H479.ev rfl) (fun w_ h_ => h_.1) O484.below.size (by omega) ?_
        intro A485 c486 S487 _ w489 H490 O491; clear H479 O482 O484
        have O492 : Own w w489 [Chunk.nrow k26 26 w.heap.size S487 (.slice A485 ((kids ++ [(⟨1, (canonP fun c_ => inR rs418 c_ != nt419), []⟩ : S26)]).length) c486) (kids ++ [(⟨1, (canonP fun c_ => inR rs418 c_ != nt419), []⟩ : S26)]), Bk g447 [J 1, .slice A421 (((canonP fun c_ => inR rs418 c_ != nt419)).length) c422, .slice none 0 0] 26, Bk g2 [J 0, .slice none 0 0, .slice none 0 0] 26] := O491
        clear O491
        refine V H490 (op_assign rfl (H490.ev rfl)) ?_
        intro _ H494; clear H490
        refine gE hK471 ?_
        refine wp_region_lit ?_
        refine V H494 (op_move rfl (H494.ev rfl)) ?_
        intro _ H496; clear H494
        refine V H496 (op_assign rfl (H496.ev rfl)) ?_
        intro _ H498; clear H496
        refine wpList_nil ?_
        refine gw_blk ?_
        refine gw_blk ?_
        refine gw_nx ⟨_, ?_, ((s.size : Int) - r2420.length), (kids ++ [(⟨1, (canonP fun c_ => inR rs418 c_ != nt419), []⟩ : S26)]), A485, _, _, (H498.pick (t := 6) rfl (H498.pick (t := 5) rfl (H498.pick (t := 0) rfl (H498.pick (t := 2) rfl H498.nil)))), O492.sel [0, 2] (by decide), ?_, ?_, ?_, rfl⟩
        ·
         rw [hm56]; omega
        ·
         omega
        ·
         rw [List.length_append, List.length_singleton]; omega
        ·
         exact ⟨k, by rw [hrr2]; (have h_ := rest_len s ((s.size : Int) - r2420.length) (by omega); have h2_ := rest_len s (p + 1) (by omega); rw [hrr2] at h_; rw [hpr] at h2_; omega), by rw [hrr2]; exact hR.symm⟩
       ·
        refine ⟨_, rfl, fun _ H434 => ?_⟩
        have O435 : Own w w431 [Chunk.nrow k26 26 w.heap.size Sa (.slice Aa kids.length ca) kids, Bk g2 [J 0, .slice none 0 0, .slice none 0 0] 26, Chunk.view k55 S423 A421 ((L425).length) c422 L425] := Own.unbundle (A := [Chunk.nrow k26 26 w.heap.size Sa (.slice Aa kids.length ca) kids, Bk g2 [J 0, .slice none 0 0, .slice none 0 0] 26]) (L := [Chunk.view k55 S423 A421 ((L425).length) c422 L425]) hb432
        clear O436 hb432
        clear H416 O55
        rw [← hpr, hT] at hR
        simp only at hR
        refine V H434 (op_move rfl (H434.ev rfl)) ?_
        intro _ H500; clear H434
        refine V H500 (op_extract rfl (H500.ev rfl) rfl) ?_
        intro _ H502; clear H500
        refine V H502 (op_extract rfl (H502.ev rfl) rfl) ?_
        intro _ H504; clear H502
        refine V H504 (op_extract rfl (H504.ev rfl) rfl) ?_
        intro _ H506; clear H504
        refine V H506 (op_extract rfl (H506.ev rfl) rfl) ?_
        intro _ H508; clear H506
        refine gw_new H508 O435 (want_none rfl) rfl (by decide) (op_alloc gwzer26 rfl) ?_
        intro g509 _ w511 H512 O513; clear H508 O435
        have O514 : Own w w511 [Bk g509 [J 0, .slice none 0 0, .slice none 0 0] 26, Chunk.nrow k26 26 w.heap.size Sa (.slice Aa kids.length ca) kids, Bk g2 [J 0, .slice none 0 0, .slice none 0 0] 26, Chunk.view k55 S423 A421 ((L425).length) c422 L425] := O513
        clear O513
        refine gw_setn 0 H512 O514 rfl (want_none rfl) rfl (op_storen gwsiz26 rfl (H512.ev rfl) (H512.ev rfl) (O514.get 0 rfl) rfl (by simp) (by simp [Value.oneCell'])) ?_
        intro _ w517 H516 O518; clear H512 O514
        refine V H516 (op_assign rfl (H516.ev rfl)) ?_
        intro _ H520; clear H516
        refine V H520 (op_assign rfl (H520.ev rfl)) ?_
        intro _ H522; clear H520
        refine V H522 (op_assign rfl (H522.ev rfl)) ?_
        intro _ H524; clear H522
        refine gE hK412 ?_
        refine gw_seq fun K525 hK525 => ?_
        refine gR fun K526 hK526 => ?_
        refine V H524 (op_move rfl (H524.ev rfl)) ?_
        intro _ H528; clear H524
        refine V H528 (op_nei rfl (H528.ev rfl) (ev_c _ _)) ?_
        intro _ H530; clear H528
        have H531 := H530.lit (b := true) (by simpa using he0)
        clear H530
        refine gE hK526 ?_
        refine gw_cond H531 rfl (fun hb532 => ?_) (fun hb532 => ?_)
        rotate_left
        ·
         cases hb532
        refine gR fun K533 hK533 => ?_
        refine V H531 (op_build (cells := #[J 0, .slice none 0 0, .slice none 0 0]) rfl pt_nil (by kernel_rfl)) ?_
        intro _ H535; clear H531
        refine V H535 (op_move rfl (H535.ev rfl)) ?_
        intro _ H537; clear H535
        refine V H537 (op_move rfl (H537.ev rfl)) ?_
        intro _ H539; clear H537
        refine gw_setn 2 H539 O518 rfl (want_none rfl) rfl (op_storen gwsiz26 rfl (H539.ev rfl) (H539.ev rfl) (O518.get 2 rfl) rfl (by simp) (by simp [Value.oneCell'])) ?_
        intro _ w542 H541 O543; clear H539 O518
        refine V H541 (op_assign rfl (H541.ev rfl)) ?_
        intro _ H545; clear H541
        refine V H545 (op_assign rfl (H545.ev rfl)) ?_
        intro _ H547; clear H545
        refine gE hK533 ?_
        refine wp_ret ?_
        refine gw_thr ?_
        refine gw_blr ?_
        refine gw_blr ?_
        refine gw_thr ?_
        refine gw_blr ?_
        refine gw_thr ?_
        refine gw_rets3 H547 rfl (rv_celln H547 rfl gwagg26 gwsiz26 (O543.get 2 rfl) rfl) (rv_tmp H547 rfl) (rv_tmp H547 rfl) ?_
        rw [show parseG s = (0, [], e2424, (s.size : Int) - (m417 : Nat)) from parseG_bad hlong (hR.symm.trans hRES)]
        exact ⟨none, 0, _, rfl, ((O543.nrow_nil k26 26 w.heap.size).sel [0] (by decide)).out⟩
      ·
       have H548 := H409.subst_ (d := 62) (b := false) rfl hb410
       clear H409
       (try simp only [decide_eq_false_iff_not] at hb410)
       rw [if_neg (fun h_ => hb410 (hbx.trans h_))] at hR
       refine gR fun K549 hK549 => ?_
       refine V H548 (op_move rfl (H548.ev rfl)) ?_
       intro _ H551; clear H548
       refine V H551 (op_move rfl (H551.ev rfl)) ?_
       intro _ H553; clear H551
       refine gw_call H553 (want_none rfl) rfl (by decide) (op_callL Tryz.func23 (by kernel_rfl) rfl rfl (ar_cons (H553.ev rfl) (ar_cons (H553.ev rfl) ar_nil))) (item_is s p _ (by omega) hs x ((s.size : Int) - r.length) true (item_ok hb1)) ?_
       rintro e554 w555 ⟨rfl, hb556⟩
       refine ⟨_, rfl, fun _ H558 => ?_⟩
       have O559 := O55.after hb556
       clear H553 O55 hb556
       refine V H558 (op_move rfl (H558.ev rfl)) ?_
       intro _ H562; clear H558
       refine V H562 (op_extract rfl (H562.ev rfl) rfl) ?_
       intro _ H564; clear H562
       refine V H564 (op_extract rfl (H564.ev rfl) rfl) ?_
       intro _ H566; clear H564
       refine V H566 (op_extract rfl (H566.ev rfl) rfl) ?_
       intro _ H568; clear H566
       refine V H568 (op_assign rfl (H568.ev rfl)) ?_
       intro _ H570; clear H568
       refine V H570 (op_assign rfl (H570.ev rfl)) ?_
       intro _ H572; clear H570
       refine V H572 (op_assign rfl (H572.ev rfl)) ?_
       intro _ H574; clear H572
       refine gE hK549 ?_
       refine gw_seq fun K575 hK575 => ?_
       refine gR fun K576 hK576 => ?_
       refine V H574 (op_move rfl (H574.ev rfl)) ?_
       intro _ H578; clear H574
       refine V H578 (op_not rfl (H578.ev rfl)) ?_
       intro _ H580; clear H578
       refine gE hK576 ?_
       refine gw_cond H580 rfl (fun hb581 => ?_) (fun hb581 => ?_)
       skip
       ·
        cases hb581
       refine wp_skip ?_
       refine gw_nx (hK575 _ _ ?_)
       refine gR fun K582 hK582 => ?_
       refine V H580 (op_move rfl (H580.ev rfl)) ?_
       intro _ H584; clear H580
       refine V H584 (op_move rfl (H584.ev rfl)) ?_
       intro _ H586; clear H584
       refine gw_call H586 (want_none rfl) rfl (by decide) (op_callL Tryz.func24 (by kernel_rfl) rfl rfl (ar_cons (H586.ev rfl) ar_nil)) (rone_walk x _) ?_
       rintro e591 w592 ⟨A587, c588, S589, rfl, hb593⟩
       refine ⟨_, rfl, fun _ H595 => ?_⟩
       have O596 := O559.fresh hb593
       clear H586 O559 hb593
       refine gw_news (O := .cells #[J 1, .slice A587 (([(⟨x, x⟩ : S55)]).length) c588, .slice none 0 0] 26 (0, 0)) (n := 1) H595 O596 (want_none rfl) rfl (by decide) (op_bslice (by kernel_rfl) rfl (pt_cons (H595.ev rfl) pt_nil)) ?_
       intro g598 _ w600 H601 O602; clear H595 O596
       have O603 : Own w w600 [Bk g598 [J 1, .slice A587 (([(⟨x, x⟩ : S55)]).length) c588, .slice none 0 0] 26, Chunk.view k55 S589 A587 (([(⟨x, x⟩ : S55)]).length) c588 ([(⟨x, x⟩ : S55)]), Chunk.nrow k26 26 w.heap.size Sa (.slice Aa kids.length ca) kids, Bk g2 [J 0, .slice none 0 0, .slice none 0 0] 26] := O602
       clear O602
       have O604 : Own w w600 [Chunk.view k26 (fun k_ => k_ = g598 ∨ S589 k_) (some ⟨g598, 0, none⟩) (([(⟨1, ([(⟨x, x⟩ : S55)]), []⟩ : S26)]).length) (([(⟨1, ([(⟨x, x⟩ : S55)]), []⟩ : S26)]).length) ([(⟨1, ([(⟨x, x⟩ : S55)]), []⟩ : S26)]), Chunk.nrow k26 26 w.heap.size Sa (.slice Aa kids.length ca) kids, Bk g2 [J 0, .slice none 0 0, .slice none 0 0] 26] := Own.lit_view (cs := [J 1, .slice A587 (([(⟨x, x⟩ : S55)]).length) c588, .slice none 0 0]) (O603.sel [0, 1, 2, 3] (by decide)) k26 [(⟨1, ([(⟨x, x⟩ : S55)]), []⟩ : S26)] (fun w_ h_ => reps_more (k26_mkF _ _ (⟨1, ([(⟨x, x⟩ : S55)]), []⟩ : S26) h_.2.1 h_.1 (Nat.le_refl _) (Kd.F_nil _ _ _)) rfl reps_none) (by simp [maxLen])
       clear O603
       have O606 : Own w w600 [Chunk.nrow k26 26 w.heap.size Sa (.slice Aa kids.length ca) kids, Chunk.view k26 (fun k_ => k_ = g598 ∨ S589 k_) (some ⟨g598, 0, none⟩) (([(⟨1, ([(⟨x, x⟩ : S55)]), []⟩ : S26)]).length) (([(⟨1, ([(⟨x, x⟩ : S55)]), []⟩ : S26)]).length) ([(⟨1, ([(⟨x, x⟩ : S55)]), []⟩ : S26)]), Bk g2 [J 0, .slice none 0 0, .slice none 0 0] 26] := O604.sel [1, 0, 2] (by decide)
       refine gw_nappend k26 (ys := [(⟨1, ([(⟨x, x⟩ : S55)]), []⟩ : S26)]) H601 O606 (want_none rfl) rfl (by decide) rfl Tryz.underlying24 gwinfo26 rfl (by decide) (by decide) (H601.ev rfl) (H601.ev rfl) (fun w_ h_ => h_.1) O606.below.size (by omega) ?_
       intro A607 c608 S609 _ w611 H612 O613; clear H601 O604 O606
       have O614 : Own w w611 [Chunk.nrow k26 26 w.heap.size S609 (.slice A607 ((kids ++ [(⟨1, ([(⟨x, x⟩ : S55)]), []⟩ : S26)]).length) c608) (kids ++ [(⟨1, ([(⟨x, x⟩ : S55)]), []⟩ : S26)]), Bk g2 [J 0, .slice none 0 0, .slice none 0 0] 26] := O613
       clear O613
       refine V H612 (op_assign rfl (H612.ev rfl)) ?_
       intro _ H616; clear H612
       refine gE hK582 ?_
       refine wp_region_lit ?_
       refine V H616 (op_move rfl (H616.ev rfl)) ?_
       intro _ H618; clear H616
       refine V H618 (op_assign rfl (H618.ev rfl)) ?_
       intro _ H620; clear H618
       refine wpList_nil ?_
       refine gw_blk ?_
       refine gw_blk ?_
       refine gw_nx ⟨_, ?_, ((s.size : Int) - r.length), (kids ++ [(⟨1, ([(⟨x, x⟩ : S55)]), []⟩ : S26)]), A607, _, _, (H620.pick (t := 6) rfl (H620.pick (t := 5) rfl (H620.pick (t := 0) rfl (H620.pick (t := 2) rfl H620.nil)))), O614.sel [0, 1] (by decide), ?_, ?_, ?_, rfl⟩
       ·
        rw [hm56]; omega
       ·
        omega
       ·
        rw [List.length_append, List.length_singleton]; omega
       ·
        exact ⟨k, by rw [hrr]; exact hk, by rw [hrr]; exact hR.symm⟩
end GRefP_
export GRefP_ (rParse_walk)
end Go.Proofs.YtelbgmpeghhakaaGreat.PA
end
section
namespace Go.Proofs.YtelbgmpeghhakaaGreat.PA
open Go.RowKit Go.Proofs.YtelbgmpeghhakaaGreatW.PrintWords Go.Proofs.YtelbgmpeghhakaaGreatW.PrintLast Go.Proofs.YtelbgmpeghhakaaGreatW.PrintMore
set_option linter.unusedVariables false
set_option linter.unusedSimpArgs false
theorem byteS_app : ∀ {t : List Int} {x : Int} {q : Bool} {r : List Int} (u : List Int), byteS t = some (x, q, r) → byteS (t ++ u) = some (x, q, r ++ u)
  | [], _, _, _, _, h => by cases h
  | c :: t, x, q, r, u, h => by
    rw [List.cons_append, byteS_cons]
    rw [byteS_cons] at h
    by_cases hc : c = 92
    · rw [if_pos hc] at h ⊢
      cases t with
      | nil => cases h
      | cons d t => simp only [Option.some.injEq, Prod.mk.injEq] at h; obtain ⟨rfl, rfl, rfl⟩ := h; rfl
    · rw [if_neg hc] at h ⊢
      simp only [Option.some.injEq, Prod.mk.injEq] at h
      obtain ⟨rfl, rfl, rfl⟩ := h
      rfl
theorem classS_nil (k : Nat) (f : Bool) (acc : List RR) (v : List RR × List Int) : classS k [] f acc ≠ .inl v := by
  cases k with
  | zero => intro h; cases h
  | succ k => intro h; rw [classS] at h; cases h
theorem classS_hy (k : Nat) (f : Bool) (acc : List RR) (v : List RR × List Int) : classS k [45] f acc ≠ .inl v := by
  cases k with
  | zero => intro h; cases h
  | succ k =>
    intro h
    rw [classS] at h
    simp only [byteS, if_neg (show ¬ (45 : Int) = 92 by decide), if_neg (show ¬ ((45 : Int) = 93 ∧ False ∧ f = false) by simp), hyph] at h
    simp at h
    exact classS_nil k _ _ _ h
theorem hyph_app : ∀ {r : List Int} (u : List Int), r ≠ [] → r ≠ [45] → hyph (r ++ u) = hyph r
  | [], _, h, _ => absurd rfl h
  | [c], u, _, h => by
    have hc : c ≠ 45 := fun e => h (by rw [e])
    cases u with
    | nil => rfl
    | cons d u =>
      show (decide (c = 45) && decide (d ≠ 93)) = false
      rw [decide_eq_false hc]
      rfl
  | c :: d :: r, u, _, _ => rfl
theorem hyph_two : ∀ {r : List Int}, hyph r = true → r ≠ [] ∧ r ≠ [45]
  | [], h => by cases h
  | [c], h => by cases h
  | c :: d :: r, _ => ⟨by simp, by simp⟩
theorem classS_app : ∀ (k : Nat) (t : List Int) (f : Bool) (acc rs : List RR) (r u : List Int) (k' : Nat), k ≤ k' → classS k t f acc = .inl (rs, r) → classS k' (t ++ u) f acc = .inl (rs, r ++ u)
  | 0, t, f, acc, rs, r, u, k', _, h => by cases h
  | k + 1, t, f, acc, rs, r, u, k', hk, h => by
    obtain ⟨k', rfl⟩ : ∃ j, k' = j + 1 := ⟨k' - 1, by omega⟩
    rw [classS] at h ⊢
    cases hb : byteS t with
    | none => rw [hb] at h; cases h
    | some v =>
      obtain ⟨lo, q, r1⟩ := v
      rw [hb] at h
      rw [byteS_app u hb]
      simp only at h ⊢
      by_cases he : lo = 93 ∧ q = false ∧ f = false
      · rw [if_pos he] at h ⊢
        simp only [Sum.inl.injEq, Prod.mk.injEq] at h
        obtain ⟨rfl, rfl⟩ := h
        rfl
      · rw [if_neg he] at h ⊢
        by_cases hy : hyph r1 = true
        · have h2 := hyph_two hy
          rw [if_pos hy] at h
          rw [hyph_app u h2.1 h2.2, if_pos hy]
          have et : (r1 ++ u).tail = r1.tail ++ u := by
            cases r1 with
            | nil => exact absurd rfl h2.1
            | cons _ _ => rfl
          rw [et]
          cases hb2 : byteS r1.tail with
          | none => rw [hb2] at h; cases h
          | some v2 =>
            obtain ⟨hi, q2, r2⟩ := v2
            rw [hb2] at h
            rw [byteS_app u hb2]
            simp only at h ⊢
            by_cases hl : hi < lo
            · rw [if_pos hl] at h; cases h
            · rw [if_neg hl] at h ⊢
              exact classS_app k r2 false _ rs r u k' (by omega) h
        · rw [if_neg hy] at h
          have h0 : r1 ≠ [] := fun e => classS_nil k _ _ _ (e ▸ h)
          have h1 : r1 ≠ [45] := fun e => classS_hy k _ _ _ (e ▸ h)
          rw [hyph_app u h0 h1, if_neg hy]
          exact classS_app k r1 false _ rs r u k' (by omega) h
theorem classT_app {t : List Int} {rs : List RR} {nt : Bool} {r : List Int} (u : List Int) (h : classT t = .inl (rs, nt, r)) : classT (t ++ u) = .inl (rs, nt, r ++ u) ∧ r.length ≤ t.length := by
  unfold classT at h ⊢
  have hne : t ≠ [] := fun e => by
    subst e
    rw [show classS (([] : List Int).length + 1) (if ([] : List Int).head? = some 33 then ([] : List Int).tail else []) true [] = .inr (31, 0) from rfl] at h
    cases h
  have eh : (t ++ u).head? = t.head? := by
    cases t with
    | nil => exact absurd rfl hne
    | cons _ _ => rfl
  have et : (if (t ++ u).head? = some 33 then (t ++ u).tail else t ++ u) = (if t.head? = some 33 then t.tail else t) ++ u := by
    rw [eh]
    split
    · cases t with
      | nil => exact absurd rfl hne
      | cons _ _ => rfl
    · rfl
  cases hc : classS (t.length + 1) (if t.head? = some 33 then t.tail else t) true [] with
  | inr e => rw [hc] at h; cases h
  | inl v =>
    obtain ⟨rs', r'⟩ := v
    rw [hc] at h
    simp only [Sum.inl.injEq, Prod.mk.injEq] at h
    obtain ⟨rfl, rfl, rfl⟩ := h
    rw [et, classS_app _ _ _ _ _ _ u ((t ++ u).length + 1) (by rw [List.length_append]; omega) hc, eh]
    refine ⟨rfl, ?_⟩
    have hs := (classS_suf _ _ _ _ _ _ hc).length_le
    split at hs
    · rw [List.length_tail] at hs; omega
    · exact hs
end Go.Proofs.YtelbgmpeghhakaaGreat.PA
end
section
namespace Go.Proofs.YtelbgmpeghhakaaGreat.PA
open Go.RowKit Go.Proofs.YtelbgmpeghhakaaGreatW.PrintWords Go.Proofs.YtelbgmpeghhakaaGreatW.PrintLast Go.Proofs.YtelbgmpeghhakaaGreatW.PrintMore
attribute [local go_sem] max2_int min2_int max_two min_two max_three min_three max_four min_four   -- for this text's walks alone
set_option linter.unusedVariables false
set_option linter.unusedSimpArgs false
theorem eqA55 (d : Nat) (w : World) (x0 y0 : Int) (x1 y1 : Int) :
    (Op.equalIn (d + 2) 55 (.agg #[.int .u8 x0, .int .u8 x1]) (.agg #[.int .u8 y0, .int .u8 y1])).run Tryz.prog w = .ok (x0 == y0 && (x1 == y1)) w := by
  refine eqA_of Tryz.underlying55 (by kernel_rfl) ?_
  refine eqf_cons (by rfl) (by go_simp; rfl) (by go_simp; rfl) (by go_simp) ?_
  exact eqf_last (by rfl) (by go_simp; rfl) (by go_simp; rfl) (by go_simp)
end Go.Proofs.YtelbgmpeghhakaaGreat.PA
end
section
namespace Go.Proofs.YtelbgmpeghhakaaGreat.PA
open Go.RowKit Go.Proofs.YtelbgmpeghhakaaGreatW.PrintWords Go.Proofs.YtelbgmpeghhakaaGreatW.PrintLast Go.Proofs.YtelbgmpeghhakaaGreatW.PrintMore
attribute [local go_sem] max2_int min2_int max_two min_two max_three min_three max_four min_four   -- for this text's walks alone
set_option linter.unusedVariables false
set_option linter.unusedSimpArgs false
attribute [local go_sem high] eqA55
mutual
def colloquyref03_Same.j0 : Nat → Bool → Int → List (S55) → List (S26) → Int → List (S55) → List (S26) → Option (Bool)
  | 0, _, _, _, _, _, _, _ => none
  | k + 1, x29, x323000, x323001, x323002, x324000, x324001, x324002 => if x29 = true then (some false) else (colloquyref03_Same.l0 k 0 x323000 x323001 x323002 x324000 x324001 x324002)
def colloquyref03_Same.l0 : Nat → Int → Int → List (S55) → List (S26) → Int → List (S55) → List (S26) → Option (Bool)
  | 0, _, _, _, _, _, _, _ => none
  | k + 1, x5, x323000, x323001, x323002, x324000, x324001, x324002 => if x5 < (x323001.length : Int) then (if 0 ≤ x5 then (if x5 < (x324001.length : Int) then (if (!(((rd_T55 x323001 x5).f0) == ((rd_T55 x324001 x5).f0)) || (!(((rd_T55 x323001 x5).f1) == ((rd_T55 x324001 x5).f1)))) = true then (some false) else (colloquyref03_Same.l0 k (wrap64 (x5 + 1)) x323000 x323001 x323002 x324000 x324001 x324002)) else (none)) else (none)) else (colloquyref03_Same.l1 k 0 x323000 x323001 x323002 x324000 x324001 x324002)
def colloquyref03_Same.l1 : Nat → Int → Int → List (S55) → List (S26) → Int → List (S55) → List (S26) → Option (Bool)
  | 0, _, _, _, _, _, _, _ => none
  | k + 1, x6, x323000, x323001, x323002, x324000, x324001, x324002 => if x6 < (x323002.length : Int) then (if 0 ≤ x6 then (if x6 < (x324002.length : Int) then ((colloquyref03_Same.f k ((rd_T26 x323002 x6).f0) ((rd_T26 x323002 x6).f1) ((rd_T26 x323002 x6).f2) ((rd_T26 x324002 x6).f0) ((rd_T26 x324002 x6).f1) ((rd_T26 x324002 x6).f2)).bind fun t328 => (if t328 = true then (colloquyref03_Same.l1 k (wrap64 (x6 + 1)) x323000 x323001 x323002 x324000 x324001 x324002) else (some false))) else (none)) else (none)) else (some true)
def colloquyref03_Same.f : Nat → Int → List (S55) → List (S26) → Int → List (S55) → List (S26) → Option (Bool)
  | 0, _, _, _, _, _, _ => none
  | k + 1, a0_0, l0_1, l0_2, a1_0, l1_1, l1_2 => if a0_0 = a1_0 then (if (l0_1.length : Int) = (l1_1.length : Int) then (colloquyref03_Same.j0 k ((l0_2.length : Int) != (l1_2.length : Int)) a0_0 l0_1 l0_2 a1_0 l1_1 l1_2) else (colloquyref03_Same.j0 k true a0_0 l0_1 l0_2 a1_0 l1_1 l1_2)) else (colloquyref03_Same.j0 k true a0_0 l0_1 l0_2 a1_0 l1_1 l1_2)
end
theorem colloquyref03_Same.mono_l : ∀ k, (∀ y0 y1 y2 y3 y4 y5, LeO (colloquyref03_Same.f k y0 y1 y2 y3 y4 y5) (colloquyref03_Same.f (k + 1) y0 y1 y2 y3 y4 y5)) ∧ (∀ y0 y1 y2 y3 y4 y5 y6, LeO (colloquyref03_Same.j0 k y0 y1 y2 y3 y4 y5 y6) (colloquyref03_Same.j0 (k + 1) y0 y1 y2 y3 y4 y5 y6)) ∧ (∀ y0 y1 y2 y3 y4 y5 y6, LeO (colloquyref03_Same.l0 k y0 y1 y2 y3 y4 y5 y6) (colloquyref03_Same.l0 (k + 1) y0 y1 y2 y3 y4 y5 y6)) ∧ (∀ y0 y1 y2 y3 y4 y5 y6, LeO (colloquyref03_Same.l1 k y0 y1 y2 y3 y4 y5 y6) (colloquyref03_Same.l1 (k + 1) y0 y1 y2 y3 y4 y5 y6))
  | 0 => ⟨fun _ _ _ _ _ _ r h => by simp [colloquyref03_Same.f] at h, fun _ _ _ _ _ _ _ r h => by simp [colloquyref03_Same.j0] at h, fun _ _ _ _ _ _ _ r h => by simp [colloquyref03_Same.l0] at h, fun _ _ _ _ _ _ _ r h => by simp [colloquyref03_Same.l1] at h⟩
  | k + 1 => by
    obtain ⟨ih0, ih1, ih2, ih3⟩ := colloquyref03_Same.mono_l k
    refine ⟨?_, ?_, ?_, ?_⟩
    · intro y0 y1 y2 y3 y4 y5
      unfold colloquyref03_Same.f
      repeat' first
      | (with_reducible exact ih0 _ _ _ _ _ _)
      | (with_reducible exact ih1 _ _ _ _ _ _ _)
      | (with_reducible exact ih2 _ _ _ _ _ _ _)
      | (with_reducible exact ih3 _ _ _ _ _ _ _)
      | (with_reducible exact LeO.refl _)
      | (with_reducible exact LeO.none _)
      | (with_reducible refine LeO.ite ?_ ?_)
      | (with_reducible refine LeO.bind ?_ (fun _ => ?_))
      | exact ih0 _ _ _ _ _ _
      | exact ih1 _ _ _ _ _ _ _
      | exact ih2 _ _ _ _ _ _ _
      | exact ih3 _ _ _ _ _ _ _
      | exact LeO.none _
      | refine LeO.ite ?_ ?_
      | refine LeO.bind ?_ (fun _ => ?_)
    · intro y0 y1 y2 y3 y4 y5 y6
      unfold colloquyref03_Same.j0
      repeat' first
      | (with_reducible exact ih0 _ _ _ _ _ _)
      | (with_reducible exact ih1 _ _ _ _ _ _ _)
      | (with_reducible exact ih2 _ _ _ _ _ _ _)
      | (with_reducible exact ih3 _ _ _ _ _ _ _)
      | (with_reducible exact LeO.refl _)
      | (with_reducible exact LeO.none _)
      | (with_reducible refine LeO.ite ?_ ?_)
      | (with_reducible refine LeO.bind ?_ (fun _ => ?_))
      | exact ih0 _ _ _ _ _ _
      | exact ih1 _ _ _ _ _ _ _
      | exact ih2 _ _ _ _ _ _ _
      | exact ih3 _ _ _ _ _ _ _
      | exact LeO.none _
      | refine LeO.ite ?_ ?_
      | refine LeO.bind ?_ (fun _ => ?_)
    · intro y0 y1 y2 y3 y4 y5 y6
      unfold colloquyref03_Same.l0
      repeat' first
      | (with_reducible exact ih0 _ _ _ _ _ _)
      | (with_reducible exact ih1 _ _ _ _ _ _ _)
      | (with_reducible exact ih2 _ _ _ _ _ _ _)
      | (with_reducible exact ih3 _ _ _ _ _ _ _)
      | (with_reducible exact LeO.refl _)
      | (with_reducible exact LeO.none _)
      | (with_reducible refine LeO.ite ?_ ?_)
      | (with_reducible refine LeO.bind ?_ (fun _ => ?_))
      | exact ih0 _ _ _ _ _ _
      | exact ih1 _ _ _ _ _ _ _
      | exact ih2 _ _ _ _ _ _ _
      | exact ih3 _ _ _ _ _ _ _
      | exact LeO.none _
      | refine LeO.ite ?_ ?_
      | refine LeO.bind ?_ (fun _ => ?_)
    · intro y0 y1 y2 y3 y4 y5 y6
      unfold colloquyref03_Same.l1
      repeat' first
      | (with_reducible exact ih0 _ _ _ _ _ _)
      | (with_reducible exact ih1 _ _ _ _ _ _ _)
      | (with_reducible exact ih2 _ _ _ _ _ _ _)
      | (with_reducible exact ih3 _ _ _ _ _ _ _)
      | (with_reducible exact LeO.refl _)
      | (with_reducible exact LeO.none _)
      | (with_reducible refine LeO.ite ?_ ?_)
      | (with_reducible refine LeO.bind ?_ (fun _ => ?_))
      | exact ih0 _ _ _ _ _ _
      | exact ih1 _ _ _ _ _ _ _
      | exact ih2 _ _ _ _ _ _ _
      | exact ih3 _ _ _ _ _ _ _
      | exact LeO.none _
      | refine LeO.ite ?_ ?_
      | refine LeO.bind ?_ (fun _ => ?_)
theorem colloquyref03_Same.mono : ∀ a0 a1 a2 a3 a4 a5 k, LeO (colloquyref03_Same.f k a0 a1 a2 a3 a4 a5) (colloquyref03_Same.f (k + 1) a0 a1 a2 a3 a4 a5) := by
  intro a0 a1 a2 a3 a4 a5 k
  obtain ⟨ih0, ih1, ih2, ih3⟩ := colloquyref03_Same.mono_l k
  exact ih0 a0 a1 a2 a3 a4 a5
def colloquyref03_Same.T6 : Bool × List (List Nat × List Nat) := (true, [([], []), ([0], [0]), ([], []), ([1, 2], [1, 2]), ([3], [3]), ([], []), ([5], [5]), ([], []), ([6, 7], [6, 7]), ([8], [8]), ([4, 9], [4, 9])])
def colloquyref03_Same.B6 : List Nat := [0, 1, 0, 7, 15, 0, 32, 0, 224, 480, 1023]
theorem colloquyref03_Same.tab6 : rtab .any (opsOf Tryz.f12 6) = colloquyref03_Same.T6 := by kernel_rfl
theorem colloquyref03_Same.bits6 : waitsOk colloquyref03_Same.T6.2 colloquyref03_Same.B6 = true := by kernel_rfl
def colloquyref03_Same.T11 : Bool × List (List Nat × List Nat) := (true, [([], []), ([0], [0]), ([], []), ([1, 2], [1, 2]), ([3], [3]), ([], []), ([5], [5]), ([], []), ([6, 7], [6, 7]), ([8], [8]), ([4, 9], [4, 9]), ([10], [10])])
def colloquyref03_Same.B11 : List Nat := [0, 1, 0, 7, 15, 0, 32, 0, 224, 480, 1023, 2047]
theorem colloquyref03_Same.tab11 : rtab .any (opsOf Tryz.f12 11) = colloquyref03_Same.T11 := by kernel_rfl
theorem colloquyref03_Same.bits11 : waitsOk colloquyref03_Same.T11.2 colloquyref03_Same.B11 = true := by kernel_rfl
set_option maxHeartbeats 8000000 in
set_option maxRecDepth 100000 in
theorem colloquyref03_Same.calls (k : Nat) : ∀ (a0_0 : Int) (A0_1 : Option Addr) (c0_1 : Nat) (l0_1 : List (S55)) (A0_2 : Option Addr) (c0_2 : Nat) (l0_2 : List (S26)) (a1_0 : Int) (A1_1 : Option Addr) (c1_1 : Nat) (l1_1 : List (S55)) (A1_2 : Option Addr) (c1_2 : Nat) (l1_2 : List (S26)) (r : Bool) (w : World) (hr0_1 : Kd.C k55 w A0_1 l0_1.length l0_1) (hc0_1 : l0_1.length ≤ c0_1) (hr0_2 : Kd.C k26 w A0_2 l0_2.length l0_2) (hc0_2 : l0_2.length ≤ c0_2) (hr1_1 : Kd.C k55 w A1_1 l1_1.length l1_1) (hc1_1 : l1_1.length ≤ c1_1) (hr1_2 : Kd.C k26 w A1_2 l1_2.length l1_2) (hc1_2 : l1_2.length ≤ c1_2) (h : colloquyref03_Same.f k a0_0 l0_1 l0_2 a1_0 l1_1 l1_2 = some r),
    Calls Tryz.prog 12 #[.agg #[.int .i64 a0_0, .slice A0_1 l0_1.length c0_1, .slice A0_2 l0_2.length c0_2], .agg #[.int .i64 a1_0, .slice A1_1 l1_1.length c1_1, .slice A1_2 l1_2.length c1_2]] w fun e w' => e = .returned (.bool r) ∧ Below w.heap.size w w' := by
  induction k using Nat.strongRecOn with
  | _ k ih =>
  intro a0_0 A0_1 c0_1 l0_1 A0_2 c0_2 l0_2 a1_0 A1_1 c1_1 l1_1 A1_2 c1_2 l1_2 r w hr0_1 hc0_1 hr0_2 hc0_2 hr1_1 hc1_1 hr1_2 hc1_2 h
  cases k with
  | zero => exact absurd h (by simp [colloquyref03_Same.f])
  | succ k =>
  simp only [colloquyref03_Same.f] at h
  have hu26 := Tryz.underlying26
  have hu55 := Tryz.underlying55
  have HR0_1 := Aside0.mk hr0_1
  have HC0_1 := Aside0.mk hc0_1
  clear hr0_1 hc0_1
  have HR0_2 := Aside0.mk hr0_2
  have HC0_2 := Aside0.mk hc0_2
  clear hr0_2 hc0_2
  have HR1_1 := Aside0.mk hr1_1
  have HC1_1 := Aside0.mk hc1_1
  clear hr1_1 hc1_1
  have HR1_2 := Aside0.mk hr1_2
  have HC1_2 := Aside0.mk hc1_2
  clear hr1_2 hc1_2
  have HB := Aside0.mk (Below.refl w.heap.size w)
  have H : (if a0_0 = a1_0 then (if (l0_1.length : Int) = (l1_1.length : Int) then (colloquyref03_Same.j0 k ((l0_2.length : Int) != (l1_2.length : Int)) a0_0 l0_1 l0_2 a1_0 l1_1 l1_2) else (colloquyref03_Same.j0 k true a0_0 l0_1 l0_2 a1_0 l1_1 l1_2)) else (colloquyref03_Same.j0 k true a0_0 l0_1 l0_2 a1_0 l1_1 l1_2)) = some r := h
  clear h
  have HC3 := Aside0.mk H
  clear H
  go_enter Tryz.func12, Tryz.ntmps12
  go_upto_region 1 with (first | ((with_reducible refine gate_dst (N := 2) rfl ?_); (try (refine gate_guard (by rfl) ?_; dsimp only)); refine box_event ?hg (N := 2) ?hd (cs := #[.int .i64 a0_0, .slice A0_1 l0_1.length c0_1, .slice A0_2 l0_2.length c0_2]) (t := 26) ?hr ?_; (case hd => rfl); (case hg => rfl); (case hr => first | (go_simp; done) | (go_simp; rfl)); intro gb322 hg w4 hbox hb; have n0_ := Aside0.mk (below_step (by repeat (first | (with_reducible first | exact HB.out | apply below_alloc | apply pw_below_drewN | apply below_drew1) | exact HB.out)) hb); have n1_ := Aside0.mk (hbox); have n2_ := Aside0.mk ((by rw [hg]; exact (below_size (by repeat (first | (with_reducible first | exact HB.out | apply below_alloc | apply pw_below_drewN | apply below_drew1) | exact HB.out))) : w.heap.size ≤ gb322)); have n3_ := Aside0.mk ((by rw [hg]; exact (below_size (by repeat (first | (with_reducible first | exact HB.out | apply below_alloc | apply pw_below_drewN | apply below_drew1) | exact HB.out))) : w.heap.size ≤ gb322)); clear HB; have HB := n0_; have BK322 := n1_; have GW322 := n2_; have GE322 := n3_; clear n0_ n1_ n2_ n3_; clear hb hbox hg) | ((with_reducible refine gate_dst (N := 3) rfl ?_); (try (refine gate_guard (by rfl) ?_; dsimp only)); refine box_event ?hg (N := 3) ?hd (cs := #[.int .i64 a1_0, .slice A1_1 l1_1.length c1_1, .slice A1_2 l1_2.length c1_2]) (t := 26) ?hr ?_; (case hd => rfl); (case hg => rfl); (case hr => first | (go_simp; done) | (go_simp; rfl)); intro gb323 hg w5 hbox hb; have n0_ := Aside0.mk (blk_below (g := gb322) (o := .cells #[.int .i64 a0_0, .slice A0_1 l0_1.length c0_1, .slice A0_2 l0_2.length c0_2] 26 (0, 0)) (by (with_reducible repeat (first | refine blk_drewN ?_ _ | refine blk_drew ?_ | refine blk_alloc ?_ _)); exact BK322.out) hb); have n1_ := Aside0.mk (below_step (by repeat (first | (with_reducible first | exact HB.out | apply below_alloc | apply pw_below_drewN | apply below_drew1 | refine below_set ?_ GE322.out) | exact HB.out)) hb); have n2_ := Aside0.mk (hbox); have n3_ := Aside0.mk ((by rw [hg]; exact (below_size (by repeat (first | (with_reducible first | exact HB.out | apply below_alloc | apply pw_below_drewN | apply below_drew1 | refine below_set ?_ GE322.out) | exact HB.out))) : w.heap.size ≤ gb323)); have n4_ := Aside0.mk ((by rw [hg]; exact (below_size (by repeat (first | (with_reducible first | exact HB.out | apply below_alloc | apply pw_below_drewN | apply below_drew1 | refine below_set ?_ GE322.out) | exact HB.out))) : w.heap.size ≤ gb323)); have n5_ := Aside0.mk ((by rw [hg]; exact Nat.ne_of_lt (blk_lt (g := gb322) (o := .cells #[.int .i64 a0_0, .slice A0_1 l0_1.length c0_1, .slice A0_2 l0_2.length c0_2] 26 (0, 0)) (by (with_reducible repeat (first | refine blk_drewN ?_ _ | refine blk_drew ?_ | refine blk_alloc ?_ _)); exact BK322.out)) : gb322 ≠ gb323)); have n6_ := Aside0.mk ((by rw [hg]; exact Nat.ne_of_gt (blk_lt (g := gb322) (o := .cells #[.int .i64 a0_0, .slice A0_1 l0_1.length c0_1, .slice A0_2 l0_2.length c0_2] 26 (0, 0)) (by (with_reducible repeat (first | refine blk_drewN ?_ _ | refine blk_drew ?_ | refine blk_alloc ?_ _)); exact BK322.out)) : gb323 ≠ gb322)); clear BK322; clear HB; have BK322 := n0_; have HB := n1_; have BK323 := n2_; have GW323 := n3_; have GE323 := n4_; have NB322_323 := n5_; have NB323_322 := n6_; clear n0_ n1_ n2_ n3_ n4_ n5_ n6_; clear hb hbox hg))
  (try simp only [Act.put, List.setIfInBounds_toArray, List.set_cons_zero, List.set_cons_succ])
  go_cut [29] (fun v29 wc => ∃ (kq : Nat) (x29_2 : Bool), v29 = .bool x29_2 ∧ Aside0 (colloquyref03_Same.j0 kq x29_2 a0_0 l0_1 l0_2 a1_0 l1_1 l1_2 = some r) ∧ Aside0 (kq ≤ k) ∧ Aside0 (wc.heap[gb322]? = some (.cells #[.int .i64 a0_0, (.slice A0_1 l0_1.length c0_1), (.slice A0_2 l0_2.length c0_2)] 26 (0, 0))) ∧ Aside0 (wc.heap[gb323]? = some (.cells #[.int .i64 a1_0, (.slice A1_1 l1_1.length c1_1), (.slice A1_2 l1_2.length c1_2)] 26 (0, 0))) ∧ Aside0 (Below w.heap.size w wc))
  case first =>
    have H := HC3.out
    clear HC3
    by_cases c6 : a0_0 = a1_0
    · rw [if_pos c6] at H
      have c6b0 : (a0_0 == a1_0) = true := beq_iff_eq.mpr c6
      have c6b1 : (a0_0 != a1_0) = false := bne_eq_false_iff_eq.mpr c6
      clear c6
      (first | rw [c6b0] | rw [c6b1] | (simp only [i64_w, i32_w]; rw [c6b0]) | skip)
      by_cases c7 : (l0_1.length : Int) = (l1_1.length : Int)
      · rw [if_pos c7] at H
        have c7b0 : ((l0_1.length : Int) == (l1_1.length : Int)) = true := beq_iff_eq.mpr c7
        have c7b1 : ((l0_1.length : Int) != (l1_1.length : Int)) = false := bne_eq_false_iff_eq.mpr c7
        have c7b2 : (l0_1.length == l1_1.length) = true := by first | simpa using c7 | (simp at c7 ⊢; omega)
        clear c7
        have H' := Aside0.mk H
        clear H
        have hnb8 := NB322_323.out
        have hnc8 := NB323_322.out
        have hcz9_0 : w5.cell? ⟨gb322, 0, none⟩ = some (.int .i64 a0_0) := (blk_cell BK322.out 0).trans rfl
        have hcz9_1 : w5.cell? ⟨gb322, 1, none⟩ = some (.slice A0_1 l0_1.length c0_1) := (blk_cell BK322.out 1).trans rfl
        have hcz9_2 : w5.cell? ⟨gb322, 2, none⟩ = some (.slice A0_2 l0_2.length c0_2) := (blk_cell BK322.out 2).trans rfl
        have hfz9_0 := blk_frozen BK322.out 0
        have hfz9_1 := blk_frozen BK322.out 1
        have hfz9_2 := blk_frozen BK322.out 2
        have hcz10_0 : w5.cell? ⟨gb323, 0, none⟩ = some (.int .i64 a1_0) := (blk_cell BK323.out 0).trans rfl
        have hcz10_1 : w5.cell? ⟨gb323, 1, none⟩ = some (.slice A1_1 l1_1.length c1_1) := (blk_cell BK323.out 1).trans rfl
        have hcz10_2 : w5.cell? ⟨gb323, 2, none⟩ = some (.slice A1_2 l1_2.length c1_2) := (blk_cell BK323.out 2).trans rfl
        have hfz10_0 := blk_frozen BK323.out 0
        have hfz10_1 := blk_frozen BK323.out 1
        have hfz10_2 := blk_frozen BK323.out 2
        go_wp2
        go_meet
        case rel => exact ⟨_, (((l0_2.length : Int) != (l1_2.length : Int))), (by first | rfl | (simp; done) | (simp [*]; done)), H', ⟨by first | omega | exact Nat.le_refl _⟩, ⟨by (with_reducible repeat (first | refine blk_drewN ?_ _ | refine blk_drew ?_ | refine blk_alloc ?_ _)); exact BK322.out⟩, ⟨by (with_reducible repeat (first | refine blk_drewN ?_ _ | refine blk_drew ?_ | refine blk_alloc ?_ _)); exact BK323.out⟩, ⟨by repeat (first | (with_reducible first | exact HB.out | apply below_alloc | apply pw_below_drewN | apply below_drew1 | refine below_set ?_ GE322.out | refine below_set ?_ GE323.out) | exact HB.out)⟩⟩
      · rw [if_neg c7] at H
        have c7b0 : ((l0_1.length : Int) == (l1_1.length : Int)) = false := beq_eq_false_iff_ne.mpr c7
        have c7b1 : ((l0_1.length : Int) != (l1_1.length : Int)) = true := bne_iff_ne.mpr c7
        have c7b2 : (l0_1.length == l1_1.length) = false := by first | simpa using c7 | (simp at c7 ⊢; omega)
        have H' := Aside0.mk H
        clear H
        have hnb11 := NB322_323.out
        have hnc11 := NB323_322.out
        have hcz12_0 : w5.cell? ⟨gb322, 0, none⟩ = some (.int .i64 a0_0) := (blk_cell BK322.out 0).trans rfl
        have hcz12_1 : w5.cell? ⟨gb322, 1, none⟩ = some (.slice A0_1 l0_1.length c0_1) := (blk_cell BK322.out 1).trans rfl
        have hcz12_2 : w5.cell? ⟨gb322, 2, none⟩ = some (.slice A0_2 l0_2.length c0_2) := (blk_cell BK322.out 2).trans rfl
        have hfz12_0 := blk_frozen BK322.out 0
        have hfz12_1 := blk_frozen BK322.out 1
        have hfz12_2 := blk_frozen BK322.out 2
        have hcz13_0 : w5.cell? ⟨gb323, 0, none⟩ = some (.int .i64 a1_0) := (blk_cell BK323.out 0).trans rfl
        have hcz13_1 : w5.cell? ⟨gb323, 1, none⟩ = some (.slice A1_1 l1_1.length c1_1) := (blk_cell BK323.out 1).trans rfl
        have hcz13_2 : w5.cell? ⟨gb323, 2, none⟩ = some (.slice A1_2 l1_2.length c1_2) := (blk_cell BK323.out 2).trans rfl
        have hfz13_0 := blk_frozen BK323.out 0
        have hfz13_1 := blk_frozen BK323.out 1
        have hfz13_2 := blk_frozen BK323.out 2
        go_wp2
        go_meet
        case rel => exact ⟨_, (true), (by first | rfl | (simp; done) | (simp [*]; done)), H', ⟨by first | omega | exact Nat.le_refl _⟩, ⟨by (with_reducible repeat (first | refine blk_drewN ?_ _ | refine blk_drew ?_ | refine blk_alloc ?_ _)); exact BK322.out⟩, ⟨by (with_reducible repeat (first | refine blk_drewN ?_ _ | refine blk_drew ?_ | refine blk_alloc ?_ _)); exact BK323.out⟩, ⟨by repeat (first | (with_reducible first | exact HB.out | apply below_alloc | apply pw_below_drewN | apply below_drew1 | refine below_set ?_ GE322.out | refine below_set ?_ GE323.out) | exact HB.out)⟩⟩
    · rw [if_neg c6] at H
      have c6b0 : (a0_0 == a1_0) = false := beq_eq_false_iff_ne.mpr c6
      have c6b1 : (a0_0 != a1_0) = true := bne_iff_ne.mpr c6
      (first | rw [c6b0] | rw [c6b1] | (simp only [i64_w, i32_w]; rw [c6b0]) | skip)
      have H' := Aside0.mk H
      clear H
      have hnb14 := NB322_323.out
      have hnc14 := NB323_322.out
      have hcz15_0 : w5.cell? ⟨gb322, 0, none⟩ = some (.int .i64 a0_0) := (blk_cell BK322.out 0).trans rfl
      have hcz15_1 : w5.cell? ⟨gb322, 1, none⟩ = some (.slice A0_1 l0_1.length c0_1) := (blk_cell BK322.out 1).trans rfl
      have hcz15_2 : w5.cell? ⟨gb322, 2, none⟩ = some (.slice A0_2 l0_2.length c0_2) := (blk_cell BK322.out 2).trans rfl
      have hfz15_0 := blk_frozen BK322.out 0
      have hfz15_1 := blk_frozen BK322.out 1
      have hfz15_2 := blk_frozen BK322.out 2
      have hcz16_0 : w5.cell? ⟨gb323, 0, none⟩ = some (.int .i64 a1_0) := (blk_cell BK323.out 0).trans rfl
      have hcz16_1 : w5.cell? ⟨gb323, 1, none⟩ = some (.slice A1_1 l1_1.length c1_1) := (blk_cell BK323.out 1).trans rfl
      have hcz16_2 : w5.cell? ⟨gb323, 2, none⟩ = some (.slice A1_2 l1_2.length c1_2) := (blk_cell BK323.out 2).trans rfl
      have hfz16_0 := blk_frozen BK323.out 0
      have hfz16_1 := blk_frozen BK323.out 1
      have hfz16_2 := blk_frozen BK323.out 2
      go_wp2
      go_meet
      case rel => exact ⟨_, (true), (by first | rfl | (simp; done) | (simp [*]; done)), H', ⟨by first | omega | exact Nat.le_refl _⟩, ⟨by (with_reducible repeat (first | refine blk_drewN ?_ _ | refine blk_drew ?_ | refine blk_alloc ?_ _)); exact BK322.out⟩, ⟨by (with_reducible repeat (first | refine blk_drewN ?_ _ | refine blk_drew ?_ | refine blk_alloc ?_ _)); exact BK323.out⟩, ⟨by repeat (first | (with_reducible first | exact HB.out | apply below_alloc | apply pw_below_drewN | apply below_drew1 | refine below_set ?_ GE322.out | refine below_set ?_ GE323.out) | exact HB.out)⟩⟩
  case rest =>
    clear HC3
    try clear c1
    try clear p2
    try clear c6
    try clear c6b0
    try clear c6b1
    try clear c7
    try clear c7b0
    try clear c7b1
    try clear c7b2
    try clear c8
    try clear c11
    try clear c12
    try clear c14
    try clear hcz10_0
    try clear hcz10_1
    try clear hcz10_2
    try clear hcz12_0
    try clear hcz12_1
    try clear hcz12_2
    try clear hcz13_0
    try clear hcz13_1
    try clear hcz13_2
    try clear hcz15_0
    try clear hcz15_1
    try clear hcz15_2
    try clear hcz16_0
    try clear hcz16_1
    try clear hcz16_2
    try clear hcz9_0
    try clear hcz9_1
    try clear hcz9_2
    try clear hfz10_0
    try clear hfz10_1
    try clear hfz10_2
    try clear hfz12_0
    try clear hfz12_1
    try clear hfz12_2
    try clear hfz13_0
    try clear hfz13_1
    try clear hfz13_2
    try clear hfz15_0
    try clear hfz15_1
    try clear hfz15_2
    try clear hfz16_0
    try clear hfz16_1
    try clear hfz16_2
    try clear hfz9_0
    try clear hfz9_1
    try clear hfz9_2
    obtain ⟨kq, x29_2, rfl, HA, HJ2, BK322, BK323, HB⟩ := hcut
    cases kq with
    | zero => exact absurd HA.out (by simp [colloquyref03_Same.j0])
    | succ kj2 =>
      have H := HA.out
      clear HA
      simp only [colloquyref03_Same.j0] at H
      by_cases c17 : x29_2 = true
      · subst c17
        have H1 : (some false) = some r := by rw [if_pos rfl] at H; exact H
        clear H
        have H := H1
        clear H1
        obtain rfl := Option.some.inj H
        go_wp2
        go_ret
        exact ⟨by first | rfl | (simp [errW_none, errW_some] <;> rfl) | (simp [*, errW_none, errW_some] <;> rfl), by repeat (first | (with_reducible first | exact HB.out | apply below_alloc | apply pw_below_drewN | apply below_drew1 | refine below_set ?_ GE322.out | refine below_set ?_ GE323.out) | exact HB.out)⟩
      · replace c17 := Bool.eq_false_iff.mpr c17
        subst c17
        have H1 : (colloquyref03_Same.l0 kj2 0 a0_0 l0_1 l0_2 a1_0 l1_1 l1_2) = some r := by rw [if_neg (show ¬ (false = true) by decide)] at H; exact H
        clear H
        have H := H1
        clear H1
        have H' := Aside0.mk H
        clear H
        go_wp2
        go_loopg [5] kj2 (fun kq v5 w' => ∃ (x5_2 : Int), v5 = .int .i64 x5_2 ∧ Aside0 (colloquyref03_Same.l0 kq x5_2 a0_0 l0_1 l0_2 a1_0 l1_1 l1_2 = some r) ∧ Aside0 (kq ≤ kj2) ∧ Aside0 (w'.heap[gb322]? = some (.cells #[.int .i64 a0_0, (.slice A0_1 l0_1.length c0_1), (.slice A0_2 l0_2.length c0_2)] 26 (0, 0))) ∧ Aside0 (w'.heap[gb323]? = some (.cells #[.int .i64 a1_0, (.slice A1_1 l1_1.length c1_1), (.slice A1_2 l1_2.length c1_2)] 26 (0, 0))) ∧ Aside0 (Below w.heap.size w w'))
        case atStart => exact ⟨(0), (by first | rfl | (simp; done) | (simp [*]; done)), H', ⟨Nat.le_refl _⟩, ⟨by (with_reducible repeat (first | refine blk_drewN ?_ _ | refine blk_drew ?_ | refine blk_alloc ?_ _)); exact BK322.out⟩, ⟨by (with_reducible repeat (first | refine blk_drewN ?_ _ | refine blk_drew ?_ | refine blk_alloc ?_ _)); exact BK323.out⟩, ⟨by repeat (first | (with_reducible first | exact HB.out | apply below_alloc | apply pw_below_drewN | apply below_drew1 | refine below_set ?_ GE322.out | refine below_set ?_ GE323.out) | exact HB.out)⟩⟩
        case round =>
          clear H'
          try clear c1
          try clear p2
          try clear c6
          try clear c6b0
          try clear c6b1
          try clear c7
          try clear c7b0
          try clear c7b1
          try clear c7b2
          try clear c8
          try clear c11
          try clear c12
          try clear c14
          try clear c17
          try clear hcz10_0
          try clear hcz10_1
          try clear hcz10_2
          try clear hcz12_0
          try clear hcz12_1
          try clear hcz12_2
          try clear hcz13_0
          try clear hcz13_1
          try clear hcz13_2
          try clear hcz15_0
          try clear hcz15_1
          try clear hcz15_2
          try clear hcz16_0
          try clear hcz16_1
          try clear hcz16_2
          try clear hcz9_0
          try clear hcz9_1
          try clear hcz9_2
          try clear hfz10_0
          try clear hfz10_1
          try clear hfz10_2
          try clear hfz12_0
          try clear hfz12_1
          try clear hfz12_2
          try clear hfz13_0
          try clear hfz13_1
          try clear hfz13_2
          try clear hfz15_0
          try clear hfz15_1
          try clear hfz15_2
          try clear hfz16_0
          try clear hfz16_1
          try clear hfz16_2
          try clear hfz9_0
          try clear hfz9_1
          try clear hfz9_2
          try clear p2
          obtain ⟨x5_2, rfl, HA, HK2, BK322, BK323, HB⟩ := hrel
          cases gk with
          | zero => exact absurd HA.out (by simp [colloquyref03_Same.l0])
          | succ k2 =>
            have H := HA.out
            clear HA
            simp only [colloquyref03_Same.l0] at H
            by_cases c18 : x5_2 < (l0_1.length : Int)
            · rw [if_pos c18] at H
              have c18b0 : decide (x5_2 < (l0_1.length : Int)) = true := decide_eq_true c18
              clear c18
              by_cases c19 : 0 ≤ x5_2
              · rw [if_pos c19] at H
                have c19b0 : decide (0 ≤ x5_2) = true := decide_eq_true c19
                clear c19
                by_cases c20 : x5_2 < (l1_1.length : Int)
                · rw [if_pos c20] at H
                  have c20b0 : decide (x5_2 < (l1_1.length : Int)) = true := decide_eq_true c20
                  clear c20
                  by_cases c21 : (!(((rd_T55 l0_1 x5_2).f0) == ((rd_T55 l1_1 x5_2).f0)) || (!(((rd_T55 l0_1 x5_2).f1) == ((rd_T55 l1_1 x5_2).f1)))) = true
                  · rw [if_pos c21] at H
                    have c21b0 : (!(((rd_T55 l0_1 x5_2).f0) == ((rd_T55 l1_1 x5_2).f0)) || (!(((rd_T55 l0_1 x5_2).f1) == ((rd_T55 l1_1 x5_2).f1)))) = true := c21
                    clear c21
                    obtain rfl := Option.some.inj H
                    have hnb22 := NB322_323.out
                    have hnc22 := NB323_322.out
                    have hcz23_0 : wr.cell? ⟨gb322, 0, none⟩ = some (.int .i64 a0_0) := (blk_cell BK322.out 0).trans rfl
                    have hcz23_1 : wr.cell? ⟨gb322, 1, none⟩ = some (.slice A0_1 l0_1.length c0_1) := (blk_cell BK322.out 1).trans rfl
                    have hcz23_2 : wr.cell? ⟨gb322, 2, none⟩ = some (.slice A0_2 l0_2.length c0_2) := (blk_cell BK322.out 2).trans rfl
                    have hfz23_0 := blk_frozen BK322.out 0
                    have hfz23_1 := blk_frozen BK322.out 1
                    have hfz23_2 := blk_frozen BK322.out 2
                    try go_wp2
                    have n0_ := Aside0.mk (blk_drew BK322.out)
                    have n1_ := Aside0.mk (blk_drew BK323.out)
                    have n2_ := Aside0.mk (below_drew1 HB.out)
                    clear BK322
                    clear BK323
                    clear HB
                    have BK322 := n0_
                    have BK323 := n1_
                    have HB := n2_
                    clear n0_ n1_ n2_
                    have p324 : 0 ≤ (x5_2 : Int) := of_decide_eq_true (by first | (with_reducible assumption) | assumption)
                    have q324 : x5_2 < (l0_1.length : Int) := of_decide_eq_true (by first | (with_reducible assumption) | assumption)
                    obtain ⟨ad324, e324, hx324_0, hx324_1⟩ := at_T55 HR0_1.out x5_2 p324 q324
                    have hw324_1 := hx324_1
                    have hw324_0 := hx324_0
                    cases e324
                    replace hx324_0 := (HB.out.cell (World.block_lt_of_cell? w _ hx324_0)).trans hx324_0
                    replace hx324_1 := (HB.out.cell (World.block_lt_of_cell? w _ hx324_1)).trans hx324_1
                    replace p324 := eq_true p324
                    replace q324 := eq_true q324
                    have p325 : 0 ≤ (x5_2 : Int) := of_decide_eq_true (by first | (with_reducible assumption) | assumption)
                    have q325 : x5_2 < (l1_1.length : Int) := of_decide_eq_true (by first | (with_reducible assumption) | assumption)
                    obtain ⟨ad325, e325, hx325_0, hx325_1⟩ := at_T55 HR1_1.out x5_2 p325 q325
                    have hw325_1 := hx325_1
                    have hw325_0 := hx325_0
                    cases e325
                    replace hx325_0 := (HB.out.cell (World.block_lt_of_cell? w _ hx325_0)).trans hx325_0
                    replace hx325_1 := (HB.out.cell (World.block_lt_of_cell? w _ hx325_1)).trans hx325_1
                    replace p325 := eq_true p325
                    replace q325 := eq_true q325
                    refine start_ (n := 11) (S := fun w' => w'.cell? ⟨gb322, 0, none⟩ = some (.int .i64 a0_0) ∧ w'.cell? ⟨gb322, 1, none⟩ = some (.slice (some ad324) l0_1.length c0_1) ∧ w'.cell? ⟨gb322, 2, none⟩ = some (.slice A0_2 l0_2.length c0_2) ∧ w'.cell? ⟨gb323, 0, none⟩ = some (.int .i64 a1_0) ∧ w'.cell? ⟨gb323, 1, none⟩ = some (.slice (some ad325) l1_1.length c1_1) ∧ w'.cell? ⟨gb323, 2, none⟩ = some (.slice A1_2 l1_2.length c1_2) ∧ w'.cell? (ad324.add ((x5_2).toNat * 2)) = some (.int .u8 ((rd_T55 l0_1 x5_2).f0)) ∧ w'.cell? ⟨(ad324.add ((x5_2).toNat * 2)).block, (ad324.add ((x5_2).toNat * 2)).off + 1, none⟩ = some (.int .u8 ((rd_T55 l0_1 x5_2).f1)) ∧ w'.cell? (ad325.add ((x5_2).toNat * 2)) = some (.int .u8 ((rd_T55 l1_1 x5_2).f0)) ∧ w'.cell? ⟨(ad325.add ((x5_2).toNat * 2)).block, (ad325.add ((x5_2).toNat * 2)).off + 1, none⟩ = some (.int .u8 ((rd_T55 l1_1 x5_2).f1))) (ds := []) #[false, false, false, false, false, false, false, false, false, false, false] (by kernel_rfl) rfl rfl ⟨(blk_cell BK322.out 0).trans rfl, (blk_cell BK322.out 1).trans rfl, (blk_cell BK322.out 2).trans rfl, (blk_cell BK323.out 0).trans rfl, (blk_cell BK323.out 1).trans rfl, (blk_cell BK323.out 2).trans rfl, ((HB.out.cell (World.block_lt_of_cell? w _ hw324_0)).trans hw324_0), ((HB.out.cell (World.block_lt_of_cell? w _ hw324_1)).trans hw324_1), ((HB.out.cell (World.block_lt_of_cell? w _ hw325_0)).trans hw325_0), ((HB.out.cell (World.block_lt_of_cell? w _ hw325_1)).trans hw325_1)⟩ (fun hHeld => ?_); refine with_tabW colloquyref03_Same.tab6 colloquyref03_Same.bits6 (fun HT_ HW_ => ?_)
                    generalize wr.drew = w24 at BK322 BK323 HB hx324_0 hx324_1 hx325_0 hx325_1 hHeld ⊢
                    refine pure_ (i := 0) (N := some 37) (v := ?_) (a' := ?_) #[true, false, false, false, false, false, false, false, false, false, false] rfl rfl (any_of HT_.out (by kernel_rfl)) (fun _ _ _ h => h) (Or.inl ⟨by rfl, ?_⟩) ?_ ?_
                    rotate_left
                    · intro w'
                      go_simp
                      with_reducible rfl
                    rotate_left
                    · simp only [Act.put, List.setIfInBounds_toArray, List.set_cons_zero, List.set_cons_succ, i64_w, i32_w]
                      rfl
                    refine pure_ (i := 2) (N := some 39) (v := ?_) (a' := ?_) #[true, false, true, false, false, false, false, false, false, false, false] rfl rfl (any_of HT_.out (by kernel_rfl)) (fun _ _ _ h => h) (Or.inl ⟨by rfl, ?_⟩) ?_ ?_
                    rotate_left
                    · intro w'
                      go_simp
                      with_reducible rfl
                    rotate_left
                    · simp only [Act.put, List.setIfInBounds_toArray, List.set_cons_zero, List.set_cons_succ, i64_w, i32_w]
                      rfl
                    refine pure_ (i := 5) (N := some 42) (v := ?_) (a' := ?_) #[true, false, true, false, false, true, false, false, false, false, false] rfl rfl (any_of HT_.out (by kernel_rfl)) (fun _ _ _ h => h) (Or.inl ⟨by rfl, ?_⟩) ?_ ?_
                    rotate_left
                    · intro w'
                      go_simp
                      with_reducible rfl
                    rotate_left
                    · simp only [Act.put, List.setIfInBounds_toArray, List.set_cons_zero, List.set_cons_succ, i64_w, i32_w]
                      rfl
                    refine pure_ (i := 7) (N := some 44) (v := ?_) (a' := ?_) #[true, false, true, false, false, true, false, true, false, false, false] rfl rfl (any_of HT_.out (by kernel_rfl)) (fun _ _ _ h => h) (Or.inl ⟨by rfl, ?_⟩) ?_ ?_
                    rotate_left
                    · intro w'
                      go_simp
                      with_reducible rfl
                    rotate_left
                    · simp only [Act.put, List.setIfInBounds_toArray, List.set_cons_zero, List.set_cons_succ, i64_w, i32_w]
                      rfl
                    refine take_ (i := 1) (N := some 38) (v := ?_) (a' := ?_) #[true, true, true, false, false, true, false, true, false, false, false] rfl rfl (take_ofW HT_.out HW_.out (by kernel_rfl)) (fun _ _ _ h => h) (Or.inl ⟨by rfl, ?_⟩) hHeld ?_ ?_
                    rotate_left
                    · rintro w' ⟨s0, s1, s2, s3, s4, s5, s6, s7, s8, s9⟩
                      go_simp
                      with_reducible rfl
                    rotate_left
                    · simp only [Act.put, List.setIfInBounds_toArray, List.set_cons_zero, List.set_cons_succ, i64_w, i32_w]
                      rfl
                    refine pure_ (i := 3) (N := some 40) (v := ?_) (a' := ?_) #[true, true, true, true, false, true, false, true, false, false, false] rfl rfl (any_of HT_.out (by kernel_rfl)) (fun _ _ _ h => h) (Or.inl ⟨by rfl, ?_⟩) ?_ ?_
                    rotate_left
                    · intro w'
                      go_simp
                      with_reducible rfl
                    rotate_left
                    · simp only [Act.put, List.setIfInBounds_toArray, List.set_cons_zero, List.set_cons_succ, i64_w, i32_w]
                      rfl
                    refine take_ (i := 4) (N := some 41) (v := ?_) (a' := ?_) #[true, true, true, true, true, true, false, true, false, false, false] rfl rfl (take_ofW HT_.out HW_.out (by kernel_rfl)) (fun _ _ _ h => h) (Or.inl ⟨by rfl, ?_⟩) hHeld ?_ ?_
                    rotate_left
                    · rintro w' ⟨s0, s1, s2, s3, s4, s5, s6, s7, s8, s9⟩
                      go_simp
                      with_reducible rfl
                    rotate_left
                    · simp only [Act.put, List.setIfInBounds_toArray, List.set_cons_zero, List.set_cons_succ, i64_w, i32_w]
                      rfl
                    refine take_ (i := 6) (N := some 43) (v := ?_) (a' := ?_) #[true, true, true, true, true, true, true, true, false, false, false] rfl rfl (take_ofW HT_.out HW_.out (by kernel_rfl)) (fun _ _ _ h => h) (Or.inl ⟨by rfl, ?_⟩) hHeld ?_ ?_
                    rotate_left
                    · rintro w' ⟨s0, s1, s2, s3, s4, s5, s6, s7, s8, s9⟩
                      go_simp
                      with_reducible rfl
                    rotate_left
                    · simp only [Act.put, List.setIfInBounds_toArray, List.set_cons_zero, List.set_cons_succ, i64_w, i32_w]
                      rfl
                    refine pure_ (i := 8) (N := some 45) (v := ?_) (a' := ?_) #[true, true, true, true, true, true, true, true, true, false, false] rfl rfl (any_of HT_.out (by kernel_rfl)) (fun _ _ _ h => h) (Or.inl ⟨by rfl, ?_⟩) ?_ ?_
                    rotate_left
                    · intro w'
                      go_simp
                      with_reducible rfl
                    rotate_left
                    · simp only [Act.put, List.setIfInBounds_toArray, List.set_cons_zero, List.set_cons_succ, i64_w, i32_w]
                      rfl
                    refine take_ (i := 9) (N := some 46) (v := ?_) (a' := ?_) #[true, true, true, true, true, true, true, true, true, true, false] rfl rfl (take_ofW HT_.out HW_.out (by kernel_rfl)) (fun _ _ _ h => h) (Or.inl ⟨by rfl, ?_⟩) hHeld ?_ ?_
                    rotate_left
                    · rintro w' ⟨s0, s1, s2, s3, s4, s5, s6, s7, s8, s9⟩
                      go_simp
                      with_reducible rfl
                    rotate_left
                    · simp only [Act.put, List.setIfInBounds_toArray, List.set_cons_zero, List.set_cons_succ, i64_w, i32_w]
                      rfl
                    refine pure_ (i := 10) (N := some 47) (v := ?_) (a' := ?_) #[true, true, true, true, true, true, true, true, true, true, true] rfl rfl (any_of HT_.out (by kernel_rfl)) (fun _ _ _ h => h) (Or.inl ⟨by rfl, ?_⟩) ?_ ?_
                    rotate_left
                    · intro w'
                      go_simp
                      with_reducible rfl
                    rotate_left
                    · simp only [Act.put, List.setIfInBounds_toArray, List.set_cons_zero, List.set_cons_succ, i64_w, i32_w]
                      rfl
                    refine done_ (done_of HT_.out (by kernel_rfl)) ?_
                    try go_wp2
                    go_ret
                    exact ⟨by first | rfl | (simp [errW_none, errW_some] <;> rfl) | (simp [*, errW_none, errW_some] <;> rfl), by repeat (first | (with_reducible first | exact HB.out | apply below_alloc | apply pw_below_drewN | apply below_drew1 | refine below_set ?_ GE322.out | refine below_set ?_ GE323.out) | exact HB.out)⟩
                  · rw [if_neg c21] at H
                    have c21b0 : (!(((rd_T55 l0_1 x5_2).f0) == ((rd_T55 l1_1 x5_2).f0)) || (!(((rd_T55 l0_1 x5_2).f1) == ((rd_T55 l1_1 x5_2).f1)))) = false := by simpa using c21
                    clear c21
                    have H' := Aside0.mk H
                    clear H
                    have hnb25 := NB322_323.out
                    have hnc25 := NB323_322.out
                    have hcz26_0 : wr.cell? ⟨gb322, 0, none⟩ = some (.int .i64 a0_0) := (blk_cell BK322.out 0).trans rfl
                    have hcz26_1 : wr.cell? ⟨gb322, 1, none⟩ = some (.slice A0_1 l0_1.length c0_1) := (blk_cell BK322.out 1).trans rfl
                    have hcz26_2 : wr.cell? ⟨gb322, 2, none⟩ = some (.slice A0_2 l0_2.length c0_2) := (blk_cell BK322.out 2).trans rfl
                    have hfz26_0 := blk_frozen BK322.out 0
                    have hfz26_1 := blk_frozen BK322.out 1
                    have hfz26_2 := blk_frozen BK322.out 2
                    try go_wp2
                    have n0_ := Aside0.mk (blk_drew BK322.out)
                    have n1_ := Aside0.mk (blk_drew BK323.out)
                    have n2_ := Aside0.mk (below_drew1 HB.out)
                    clear BK322
                    clear BK323
                    clear HB
                    have BK322 := n0_
                    have BK323 := n1_
                    have HB := n2_
                    clear n0_ n1_ n2_
                    have p324 : 0 ≤ (x5_2 : Int) := of_decide_eq_true (by first | (with_reducible assumption) | assumption)
                    have q324 : x5_2 < (l0_1.length : Int) := of_decide_eq_true (by first | (with_reducible assumption) | assumption)
                    obtain ⟨ad324, e324, hx324_0, hx324_1⟩ := at_T55 HR0_1.out x5_2 p324 q324
                    have hw324_1 := hx324_1
                    have hw324_0 := hx324_0
                    cases e324
                    replace hx324_0 := (HB.out.cell (World.block_lt_of_cell? w _ hx324_0)).trans hx324_0
                    replace hx324_1 := (HB.out.cell (World.block_lt_of_cell? w _ hx324_1)).trans hx324_1
                    replace p324 := eq_true p324
                    replace q324 := eq_true q324
                    have p325 : 0 ≤ (x5_2 : Int) := of_decide_eq_true (by first | (with_reducible assumption) | assumption)
                    have q325 : x5_2 < (l1_1.length : Int) := of_decide_eq_true (by first | (with_reducible assumption) | assumption)
                    obtain ⟨ad325, e325, hx325_0, hx325_1⟩ := at_T55 HR1_1.out x5_2 p325 q325
                    have hw325_1 := hx325_1
                    have hw325_0 := hx325_0
                    cases e325
                    replace hx325_0 := (HB.out.cell (World.block_lt_of_cell? w _ hx325_0)).trans hx325_0
                    replace hx325_1 := (HB.out.cell (World.block_lt_of_cell? w _ hx325_1)).trans hx325_1
                    replace p325 := eq_true p325
                    replace q325 := eq_true q325
                    refine start_ (n := 11) (S := fun w' => w'.cell? ⟨gb322, 0, none⟩ = some (.int .i64 a0_0) ∧ w'.cell? ⟨gb322, 1, none⟩ = some (.slice (some ad324) l0_1.length c0_1) ∧ w'.cell? ⟨gb322, 2, none⟩ = some (.slice A0_2 l0_2.length c0_2) ∧ w'.cell? ⟨gb323, 0, none⟩ = some (.int .i64 a1_0) ∧ w'.cell? ⟨gb323, 1, none⟩ = some (.slice (some ad325) l1_1.length c1_1) ∧ w'.cell? ⟨gb323, 2, none⟩ = some (.slice A1_2 l1_2.length c1_2) ∧ w'.cell? (ad324.add ((x5_2).toNat * 2)) = some (.int .u8 ((rd_T55 l0_1 x5_2).f0)) ∧ w'.cell? ⟨(ad324.add ((x5_2).toNat * 2)).block, (ad324.add ((x5_2).toNat * 2)).off + 1, none⟩ = some (.int .u8 ((rd_T55 l0_1 x5_2).f1)) ∧ w'.cell? (ad325.add ((x5_2).toNat * 2)) = some (.int .u8 ((rd_T55 l1_1 x5_2).f0)) ∧ w'.cell? ⟨(ad325.add ((x5_2).toNat * 2)).block, (ad325.add ((x5_2).toNat * 2)).off + 1, none⟩ = some (.int .u8 ((rd_T55 l1_1 x5_2).f1))) (ds := []) #[false, false, false, false, false, false, false, false, false, false, false] (by kernel_rfl) rfl rfl ⟨(blk_cell BK322.out 0).trans rfl, (blk_cell BK322.out 1).trans rfl, (blk_cell BK322.out 2).trans rfl, (blk_cell BK323.out 0).trans rfl, (blk_cell BK323.out 1).trans rfl, (blk_cell BK323.out 2).trans rfl, ((HB.out.cell (World.block_lt_of_cell? w _ hw324_0)).trans hw324_0), ((HB.out.cell (World.block_lt_of_cell? w _ hw324_1)).trans hw324_1), ((HB.out.cell (World.block_lt_of_cell? w _ hw325_0)).trans hw325_0), ((HB.out.cell (World.block_lt_of_cell? w _ hw325_1)).trans hw325_1)⟩ (fun hHeld => ?_); refine with_tabW colloquyref03_Same.tab6 colloquyref03_Same.bits6 (fun HT_ HW_ => ?_)
                    generalize wr.drew = w27 at BK322 BK323 HB hx324_0 hx324_1 hx325_0 hx325_1 hHeld ⊢
                    refine pure_ (i := 0) (N := some 37) (v := ?_) (a' := ?_) #[true, false, false, false, false, false, false, false, false, false, false] rfl rfl (any_of HT_.out (by kernel_rfl)) (fun _ _ _ h => h) (Or.inl ⟨by rfl, ?_⟩) ?_ ?_
                    rotate_left
                    · intro w'
                      go_simp
                      with_reducible rfl
                    rotate_left
                    · simp only [Act.put, List.setIfInBounds_toArray, List.set_cons_zero, List.set_cons_succ, i64_w, i32_w]
                      rfl
                    refine pure_ (i := 2) (N := some 39) (v := ?_) (a' := ?_) #[true, false, true, false, false, false, false, false, false, false, false] rfl rfl (any_of HT_.out (by kernel_rfl)) (fun _ _ _ h => h) (Or.inl ⟨by rfl, ?_⟩) ?_ ?_
                    rotate_left
                    · intro w'
                      go_simp
                      with_reducible rfl
                    rotate_left
                    · simp only [Act.put, List.setIfInBounds_toArray, List.set_cons_zero, List.set_cons_succ, i64_w, i32_w]
                      rfl
                    refine pure_ (i := 5) (N := some 42) (v := ?_) (a' := ?_) #[true, false, true, false, false, true, false, false, false, false, false] rfl rfl (any_of HT_.out (by kernel_rfl)) (fun _ _ _ h => h) (Or.inl ⟨by rfl, ?_⟩) ?_ ?_
                    rotate_left
                    · intro w'
                      go_simp
                      with_reducible rfl
                    rotate_left
                    · simp only [Act.put, List.setIfInBounds_toArray, List.set_cons_zero, List.set_cons_succ, i64_w, i32_w]
                      rfl
                    refine pure_ (i := 7) (N := some 44) (v := ?_) (a' := ?_) #[true, false, true, false, false, true, false, true, false, false, false] rfl rfl (any_of HT_.out (by kernel_rfl)) (fun _ _ _ h => h) (Or.inl ⟨by rfl, ?_⟩) ?_ ?_
                    rotate_left
                    · intro w'
                      go_simp
                      with_reducible rfl
                    rotate_left
                    · simp only [Act.put, List.setIfInBounds_toArray, List.set_cons_zero, List.set_cons_succ, i64_w, i32_w]
                      rfl
                    refine take_ (i := 1) (N := some 38) (v := ?_) (a' := ?_) #[true, true, true, false, false, true, false, true, false, false, false] rfl rfl (take_ofW HT_.out HW_.out (by kernel_rfl)) (fun _ _ _ h => h) (Or.inl ⟨by rfl, ?_⟩) hHeld ?_ ?_
                    rotate_left
                    · rintro w' ⟨s0, s1, s2, s3, s4, s5, s6, s7, s8, s9⟩
                      go_simp
                      with_reducible rfl
                    rotate_left
                    · simp only [Act.put, List.setIfInBounds_toArray, List.set_cons_zero, List.set_cons_succ, i64_w, i32_w]
                      rfl
                    refine pure_ (i := 3) (N := some 40) (v := ?_) (a' := ?_) #[true, true, true, true, false, true, false, true, false, false, false] rfl rfl (any_of HT_.out (by kernel_rfl)) (fun _ _ _ h => h) (Or.inl ⟨by rfl, ?_⟩) ?_ ?_
                    rotate_left
                    · intro w'
                      go_simp
                      with_reducible rfl
                    rotate_left
                    · simp only [Act.put, List.setIfInBounds_toArray, List.set_cons_zero, List.set_cons_succ, i64_w, i32_w]
                      rfl
                    refine take_ (i := 4) (N := some 41) (v := ?_) (a' := ?_) #[true, true, true, true, true, true, false, true, false, false, false] rfl rfl (take_ofW HT_.out HW_.out (by kernel_rfl)) (fun _ _ _ h => h) (Or.inl ⟨by rfl, ?_⟩) hHeld ?_ ?_
                    rotate_left
                    · rintro w' ⟨s0, s1, s2, s3, s4, s5, s6, s7, s8, s9⟩
                      go_simp
                      with_reducible rfl
                    rotate_left
                    · simp only [Act.put, List.setIfInBounds_toArray, List.set_cons_zero, List.set_cons_succ, i64_w, i32_w]
                      rfl
                    refine take_ (i := 6) (N := some 43) (v := ?_) (a' := ?_) #[true, true, true, true, true, true, true, true, false, false, false] rfl rfl (take_ofW HT_.out HW_.out (by kernel_rfl)) (fun _ _ _ h => h) (Or.inl ⟨by rfl, ?_⟩) hHeld ?_ ?_
                    rotate_left
                    · rintro w' ⟨s0, s1, s2, s3, s4, s5, s6, s7, s8, s9⟩
                      go_simp
                      with_reducible rfl
                    rotate_left
                    · simp only [Act.put, List.setIfInBounds_toArray, List.set_cons_zero, List.set_cons_succ, i64_w, i32_w]
                      rfl
                    refine pure_ (i := 8) (N := some 45) (v := ?_) (a' := ?_) #[true, true, true, true, true, true, true, true, true, false, false] rfl rfl (any_of HT_.out (by kernel_rfl)) (fun _ _ _ h => h) (Or.inl ⟨by rfl, ?_⟩) ?_ ?_
                    rotate_left
                    · intro w'
                      go_simp
                      with_reducible rfl
                    rotate_left
                    · simp only [Act.put, List.setIfInBounds_toArray, List.set_cons_zero, List.set_cons_succ, i64_w, i32_w]
                      rfl
                    refine take_ (i := 9) (N := some 46) (v := ?_) (a' := ?_) #[true, true, true, true, true, true, true, true, true, true, false] rfl rfl (take_ofW HT_.out HW_.out (by kernel_rfl)) (fun _ _ _ h => h) (Or.inl ⟨by rfl, ?_⟩) hHeld ?_ ?_
                    rotate_left
                    · rintro w' ⟨s0, s1, s2, s3, s4, s5, s6, s7, s8, s9⟩
                      go_simp
                      with_reducible rfl
                    rotate_left
                    · simp only [Act.put, List.setIfInBounds_toArray, List.set_cons_zero, List.set_cons_succ, i64_w, i32_w]
                      rfl
                    refine pure_ (i := 10) (N := some 47) (v := ?_) (a' := ?_) #[true, true, true, true, true, true, true, true, true, true, true] rfl rfl (any_of HT_.out (by kernel_rfl)) (fun _ _ _ h => h) (Or.inl ⟨by rfl, ?_⟩) ?_ ?_
                    rotate_left
                    · intro w'
                      go_simp
                      with_reducible rfl
                    rotate_left
                    · simp only [Act.put, List.setIfInBounds_toArray, List.set_cons_zero, List.set_cons_succ, i64_w, i32_w]
                      rfl
                    refine done_ (done_of HT_.out (by kernel_rfl)) ?_
                    try go_wp2
                    go_roundg k2
                    case measure => have := HJ2.out; have := HK2.out; omega
                    case rel => exact ⟨(wrap64 (x5_2 + 1)), (by first | rfl | (simp; done) | (simp [*]; done)), H', ⟨by have := HJ2.out; have := HK2.out; omega⟩, ⟨by (with_reducible repeat (first | refine blk_drewN ?_ _ | refine blk_drew ?_ | refine blk_alloc ?_ _)); exact BK322.out⟩, ⟨by (with_reducible repeat (first | refine blk_drewN ?_ _ | refine blk_drew ?_ | refine blk_alloc ?_ _)); exact BK323.out⟩, ⟨by repeat (first | (with_reducible first | exact HB.out | apply below_alloc | apply pw_below_drewN | apply below_drew1 | refine below_set ?_ GE322.out | refine below_set ?_ GE323.out) | exact HB.out)⟩⟩
                · rw [if_neg c20] at H
                  exact absurd H (by simp)
              · rw [if_neg c19] at H
                exact absurd H (by simp)
            · rw [if_neg c18] at H
              have c18b0 : decide (x5_2 < (l0_1.length : Int)) = false := decide_eq_false c18
              clear c18
              have H' := Aside0.mk H
              clear H
              have hnb28 := NB322_323.out
              have hnc28 := NB323_322.out
              have hcz29_0 : wr.cell? ⟨gb322, 0, none⟩ = some (.int .i64 a0_0) := (blk_cell BK322.out 0).trans rfl
              have hcz29_1 : wr.cell? ⟨gb322, 1, none⟩ = some (.slice A0_1 l0_1.length c0_1) := (blk_cell BK322.out 1).trans rfl
              have hcz29_2 : wr.cell? ⟨gb322, 2, none⟩ = some (.slice A0_2 l0_2.length c0_2) := (blk_cell BK322.out 2).trans rfl
              have hfz29_0 := blk_frozen BK322.out 0
              have hfz29_1 := blk_frozen BK322.out 1
              have hfz29_2 := blk_frozen BK322.out 2
              go_wp2
              go_loopg [6] k2 (fun kq v6 w' => ∃ (x6_3 : Int), v6 = .int .i64 x6_3 ∧ Aside0 (colloquyref03_Same.l1 kq x6_3 a0_0 l0_1 l0_2 a1_0 l1_1 l1_2 = some r) ∧ Aside0 (kq ≤ k2) ∧ Aside0 (w'.heap[gb322]? = some (.cells #[.int .i64 a0_0, (.slice A0_1 l0_1.length c0_1), (.slice A0_2 l0_2.length c0_2)] 26 (0, 0))) ∧ Aside0 (w'.heap[gb323]? = some (.cells #[.int .i64 a1_0, (.slice A1_1 l1_1.length c1_1), (.slice A1_2 l1_2.length c1_2)] 26 (0, 0))) ∧ Aside0 (Below w.heap.size w w'))
              case atStart => exact ⟨(0), (by first | rfl | (simp; done) | (simp [*]; done)), H', ⟨Nat.le_refl _⟩, ⟨by (with_reducible repeat (first | refine blk_drewN ?_ _ | refine blk_drew ?_ | refine blk_alloc ?_ _)); exact BK322.out⟩, ⟨by (with_reducible repeat (first | refine blk_drewN ?_ _ | refine blk_drew ?_ | refine blk_alloc ?_ _)); exact BK323.out⟩, ⟨by repeat (first | (with_reducible first | exact HB.out | apply below_alloc | apply pw_below_drewN | apply below_drew1 | refine below_set ?_ GE322.out | refine below_set ?_ GE323.out) | exact HB.out)⟩⟩
              case round =>
                clear H'
                try clear c1
                try clear c2
                try clear p2
                try clear p3
                try clear q3
                try clear hx3
                try clear c6
                try clear c6b0
                try clear c6b1
                try clear p6
                try clear c7
                try clear c7b0
                try clear c7b1
                try clear c7b2
                try clear c8
                try clear c11
                try clear c12
                try clear c14
                try clear c17
                try clear c18
                try clear c18b0
                try clear c19
                try clear c19b0
                try clear c20
                try clear c20b0
                try clear c21
                try clear c21b0
                try clear c22
                try clear c25
                try clear c28
                try clear hcz10_0
                try clear hcz10_1
                try clear hcz10_2
                try clear hcz12_0
                try clear hcz12_1
                try clear hcz12_2
                try clear hcz13_0
                try clear hcz13_1
                try clear hcz13_2
                try clear hcz15_0
                try clear hcz15_1
                try clear hcz15_2
                try clear hcz16_0
                try clear hcz16_1
                try clear hcz16_2
                try clear hcz23_0
                try clear hcz23_1
                try clear hcz23_2
                try clear hcz26_0
                try clear hcz26_1
                try clear hcz26_2
                try clear hcz29_0
                try clear hcz29_1
                try clear hcz29_2
                try clear hcz9_0
                try clear hcz9_1
                try clear hcz9_2
                try clear hfz10_0
                try clear hfz10_1
                try clear hfz10_2
                try clear hfz12_0
                try clear hfz12_1
                try clear hfz12_2
                try clear hfz13_0
                try clear hfz13_1
                try clear hfz13_2
                try clear hfz15_0
                try clear hfz15_1
                try clear hfz15_2
                try clear hfz16_0
                try clear hfz16_1
                try clear hfz16_2
                try clear hfz23_0
                try clear hfz23_1
                try clear hfz23_2
                try clear hfz26_0
                try clear hfz26_1
                try clear hfz26_2
                try clear hfz29_0
                try clear hfz29_1
                try clear hfz29_2
                try clear hfz9_0
                try clear hfz9_1
                try clear hfz9_2
                try clear hx324_0
                try clear hx324_1
                try clear hx325_0
                try clear hx325_1
                try clear p2
                try clear p324
                try clear p325
                try clear q324
                try clear q325
                obtain ⟨x6_3, rfl, HA, HK3, BK322, BK323, HB⟩ := hrel
                cases gk with
                | zero => exact absurd HA.out (by simp [colloquyref03_Same.l1])
                | succ k3 =>
                  have H := HA.out
                  clear HA
                  simp only [colloquyref03_Same.l1] at H
                  by_cases c30 : x6_3 < (l0_2.length : Int)
                  · rw [if_pos c30] at H
                    have c30b0 : decide (x6_3 < (l0_2.length : Int)) = true := decide_eq_true c30
                    clear c30
                    by_cases c31 : 0 ≤ x6_3
                    · rw [if_pos c31] at H
                      have c31b0 : decide (0 ≤ x6_3) = true := decide_eq_true c31
                      clear c31
                      by_cases c32 : x6_3 < (l1_2.length : Int)
                      · rw [if_pos c32] at H
                        have c32b0 : decide (x6_3 < (l1_2.length : Int)) = true := decide_eq_true c32
                        clear c32
                        replace H := Option.bind_eq_some_iff.mp H
                        obtain ⟨t328, A330, H⟩ := H
                        replace H : (if t328 = true then (colloquyref03_Same.l1 k3 (wrap64 (x6_3 + 1)) a0_0 l0_1 l0_2 a1_0 l1_1 l1_2) else (some false)) = some r := H
                        have A33 := Aside0.mk A330
                        clear A330
                        by_cases c34 : t328 = true
                        · subst c34
                          have H1 : (colloquyref03_Same.l1 k3 (wrap64 (x6_3 + 1)) a0_0 l0_1 l0_2 a1_0 l1_1 l1_2) = some r := by rw [if_pos rfl] at H; exact H
                          clear H
                          have H := H1
                          clear H1
                          have H' := Aside0.mk H
                          clear H
                          have hnb35 := NB322_323.out
                          have hnc35 := NB323_322.out
                          have hcz36_0 : wr.cell? ⟨gb322, 0, none⟩ = some (.int .i64 a0_0) := (blk_cell BK322.out 0).trans rfl
                          have hcz36_1 : wr.cell? ⟨gb322, 1, none⟩ = some (.slice A0_1 l0_1.length c0_1) := (blk_cell BK322.out 1).trans rfl
                          have hcz36_2 : wr.cell? ⟨gb322, 2, none⟩ = some (.slice A0_2 l0_2.length c0_2) := (blk_cell BK322.out 2).trans rfl
                          have hfz36_0 := blk_frozen BK322.out 0
                          have hfz36_1 := blk_frozen BK322.out 1
                          have hfz36_2 := blk_frozen BK322.out 2
                          try go_wp2
                          have n0_ := Aside0.mk (blk_drew BK322.out)
                          have n1_ := Aside0.mk (blk_drew BK323.out)
                          have n2_ := Aside0.mk (below_drew1 HB.out)
                          clear BK322
                          clear BK323
                          clear HB
                          have BK322 := n0_
                          have BK323 := n1_
                          have HB := n2_
                          clear n0_ n1_ n2_
                          have p326 : 0 ≤ (x6_3 : Int) := of_decide_eq_true (by first | (with_reducible assumption) | assumption)
                          have q326 : x6_3 < (l0_2.length : Int) := of_decide_eq_true (by first | (with_reducible assumption) | assumption)
                          obtain ⟨ad326, A326_1, c326_1, A326_2, c326_2, e326, hx326_0, hx326_1, hx326_2, hl326_1, hi326_1, hl326_2, hi326_2⟩ := at_T26 HR0_2.out x6_3 p326 q326
                          have hw326_2 := hx326_2
                          have hw326_1 := hx326_1
                          have hw326_0 := hx326_0
                          cases e326
                          replace hx326_0 := (HB.out.cell (World.block_lt_of_cell? w _ hx326_0)).trans hx326_0
                          replace hx326_1 := (HB.out.cell (World.block_lt_of_cell? w _ hx326_1)).trans hx326_1
                          replace hx326_2 := (HB.out.cell (World.block_lt_of_cell? w _ hx326_2)).trans hx326_2
                          have HR326_1 := Aside0.mk hi326_1
                          have HC326_1 := Aside0.mk hl326_1
                          clear hi326_1 hl326_1
                          have HR326_2 := Aside0.mk hi326_2
                          have HC326_2 := Aside0.mk hl326_2
                          clear hi326_2 hl326_2
                          replace p326 := eq_true p326
                          replace q326 := eq_true q326
                          have p327 : 0 ≤ (x6_3 : Int) := of_decide_eq_true (by first | (with_reducible assumption) | assumption)
                          have q327 : x6_3 < (l1_2.length : Int) := of_decide_eq_true (by first | (with_reducible assumption) | assumption)
                          obtain ⟨ad327, A327_1, c327_1, A327_2, c327_2, e327, hx327_0, hx327_1, hx327_2, hl327_1, hi327_1, hl327_2, hi327_2⟩ := at_T26 HR1_2.out x6_3 p327 q327
                          have hw327_2 := hx327_2
                          have hw327_1 := hx327_1
                          have hw327_0 := hx327_0
                          cases e327
                          replace hx327_0 := (HB.out.cell (World.block_lt_of_cell? w _ hx327_0)).trans hx327_0
                          replace hx327_1 := (HB.out.cell (World.block_lt_of_cell? w _ hx327_1)).trans hx327_1
                          replace hx327_2 := (HB.out.cell (World.block_lt_of_cell? w _ hx327_2)).trans hx327_2
                          have HR327_1 := Aside0.mk hi327_1
                          have HC327_1 := Aside0.mk hl327_1
                          clear hi327_1 hl327_1
                          have HR327_2 := Aside0.mk hi327_2
                          have HC327_2 := Aside0.mk hl327_2
                          clear hi327_2 hl327_2
                          replace p327 := eq_true p327
                          replace q327 := eq_true q327
                          refine start_ (n := 12) (S := fun w' => w'.cell? ⟨gb322, 0, none⟩ = some (.int .i64 a0_0) ∧ w'.cell? ⟨gb322, 1, none⟩ = some (.slice A0_1 l0_1.length c0_1) ∧ w'.cell? ⟨gb322, 2, none⟩ = some (.slice (some ad326) l0_2.length c0_2) ∧ w'.cell? ⟨gb323, 0, none⟩ = some (.int .i64 a1_0) ∧ w'.cell? ⟨gb323, 1, none⟩ = some (.slice A1_1 l1_1.length c1_1) ∧ w'.cell? ⟨gb323, 2, none⟩ = some (.slice (some ad327) l1_2.length c1_2) ∧ w'.cell? (ad326.add ((x6_3).toNat * 3)) = some (.int .i64 ((rd_T26 l0_2 x6_3).f0)) ∧ w'.cell? ⟨(ad326.add ((x6_3).toNat * 3)).block, (ad326.add ((x6_3).toNat * 3)).off + 1, none⟩ = some (.slice A326_1 ((rd_T26 l0_2 x6_3).f1).length c326_1) ∧ w'.cell? ⟨(ad326.add ((x6_3).toNat * 3)).block, (ad326.add ((x6_3).toNat * 3)).off + 2, none⟩ = some (.slice A326_2 ((rd_T26 l0_2 x6_3).f2).length c326_2) ∧ w'.cell? (ad327.add ((x6_3).toNat * 3)) = some (.int .i64 ((rd_T26 l1_2 x6_3).f0)) ∧ w'.cell? ⟨(ad327.add ((x6_3).toNat * 3)).block, (ad327.add ((x6_3).toNat * 3)).off + 1, none⟩ = some (.slice A327_1 ((rd_T26 l1_2 x6_3).f1).length c327_1) ∧ w'.cell? ⟨(ad327.add ((x6_3).toNat * 3)).block, (ad327.add ((x6_3).toNat * 3)).off + 2, none⟩ = some (.slice A327_2 ((rd_T26 l1_2 x6_3).f2).length c327_2)) (ds := []) #[false, false, false, false, false, false, false, false, false, false, false, false] (by kernel_rfl) rfl rfl ⟨(blk_cell BK322.out 0).trans rfl, (blk_cell BK322.out 1).trans rfl, (blk_cell BK322.out 2).trans rfl, (blk_cell BK323.out 0).trans rfl, (blk_cell BK323.out 1).trans rfl, (blk_cell BK323.out 2).trans rfl, ((HB.out.cell (World.block_lt_of_cell? w _ hw326_0)).trans hw326_0), ((HB.out.cell (World.block_lt_of_cell? w _ hw326_1)).trans hw326_1), ((HB.out.cell (World.block_lt_of_cell? w _ hw326_2)).trans hw326_2), ((HB.out.cell (World.block_lt_of_cell? w _ hw327_0)).trans hw327_0), ((HB.out.cell (World.block_lt_of_cell? w _ hw327_1)).trans hw327_1), ((HB.out.cell (World.block_lt_of_cell? w _ hw327_2)).trans hw327_2)⟩ (fun hHeld => ?_); refine with_tabW colloquyref03_Same.tab11 colloquyref03_Same.bits11 (fun HT_ HW_ => ?_)
                          generalize wr.drew = w37 at BK322 BK323 HB HR326_1 HR326_2 HR327_1 HR327_2 hx326_0 hx326_1 hx326_2 hx327_0 hx327_1 hx327_2 hHeld ⊢
                          refine pure_ (i := 0) (N := some 55) (v := ?_) (a' := ?_) #[true, false, false, false, false, false, false, false, false, false, false, false] rfl rfl (any_of HT_.out (by kernel_rfl)) (fun _ _ _ h => h) (Or.inl ⟨by rfl, ?_⟩) ?_ ?_
                          rotate_left
                          · intro w'
                            go_simp
                            with_reducible rfl
                          rotate_left
                          · simp only [Act.put, List.setIfInBounds_toArray, List.set_cons_zero, List.set_cons_succ, i64_w, i32_w]
                            rfl
                          refine pure_ (i := 2) (N := some 57) (v := ?_) (a' := ?_) #[true, false, true, false, false, false, false, false, false, false, false, false] rfl rfl (any_of HT_.out (by kernel_rfl)) (fun _ _ _ h => h) (Or.inl ⟨by rfl, ?_⟩) ?_ ?_
                          rotate_left
                          · intro w'
                            go_simp
                            with_reducible rfl
                          rotate_left
                          · simp only [Act.put, List.setIfInBounds_toArray, List.set_cons_zero, List.set_cons_succ, i64_w, i32_w]
                            rfl
                          refine pure_ (i := 5) (N := some 60) (v := ?_) (a' := ?_) #[true, false, true, false, false, true, false, false, false, false, false, false] rfl rfl (any_of HT_.out (by kernel_rfl)) (fun _ _ _ h => h) (Or.inl ⟨by rfl, ?_⟩) ?_ ?_
                          rotate_left
                          · intro w'
                            go_simp
                            with_reducible rfl
                          rotate_left
                          · simp only [Act.put, List.setIfInBounds_toArray, List.set_cons_zero, List.set_cons_succ, i64_w, i32_w]
                            rfl
                          refine pure_ (i := 7) (N := some 62) (v := ?_) (a' := ?_) #[true, false, true, false, false, true, false, true, false, false, false, false] rfl rfl (any_of HT_.out (by kernel_rfl)) (fun _ _ _ h => h) (Or.inl ⟨by rfl, ?_⟩) ?_ ?_
                          rotate_left
                          · intro w'
                            go_simp
                            with_reducible rfl
                          rotate_left
                          · simp only [Act.put, List.setIfInBounds_toArray, List.set_cons_zero, List.set_cons_succ, i64_w, i32_w]
                            rfl
                          refine take_ (i := 1) (N := some 56) (v := ?_) (a' := ?_) #[true, true, true, false, false, true, false, true, false, false, false, false] rfl rfl (take_ofW HT_.out HW_.out (by kernel_rfl)) (fun _ _ _ h => h) (Or.inl ⟨by rfl, ?_⟩) hHeld ?_ ?_
                          rotate_left
                          · rintro w' ⟨s0, s1, s2, s3, s4, s5, s6, s7, s8, s9, s10, s11⟩
                            go_simp
                            with_reducible rfl
                          rotate_left
                          · simp only [Act.put, List.setIfInBounds_toArray, List.set_cons_zero, List.set_cons_succ, i64_w, i32_w]
                            rfl
                          refine pure_ (i := 3) (N := some 58) (v := ?_) (a' := ?_) #[true, true, true, true, false, true, false, true, false, false, false, false] rfl rfl (any_of HT_.out (by kernel_rfl)) (fun _ _ _ h => h) (Or.inl ⟨by rfl, ?_⟩) ?_ ?_
                          rotate_left
                          · intro w'
                            go_simp
                            with_reducible rfl
                          rotate_left
                          · simp only [Act.put, List.setIfInBounds_toArray, List.set_cons_zero, List.set_cons_succ, i64_w, i32_w]
                            rfl
                          refine take_ (i := 4) (N := some 59) (v := ?_) (a' := ?_) #[true, true, true, true, true, true, false, true, false, false, false, false] rfl rfl (take_ofW HT_.out HW_.out (by kernel_rfl)) (fun _ _ _ h => h) (Or.inl ⟨by rfl, ?_⟩) hHeld ?_ ?_
                          rotate_left
                          · rintro w' ⟨s0, s1, s2, s3, s4, s5, s6, s7, s8, s9, s10, s11⟩
                            go_simp
                            with_reducible rfl
                          rotate_left
                          · simp only [Act.put, List.setIfInBounds_toArray, List.set_cons_zero, List.set_cons_succ, i64_w, i32_w]
                            rfl
                          refine take_ (i := 6) (N := some 61) (v := ?_) (a' := ?_) #[true, true, true, true, true, true, true, true, false, false, false, false] rfl rfl (take_ofW HT_.out HW_.out (by kernel_rfl)) (fun _ _ _ h => h) (Or.inl ⟨by rfl, ?_⟩) hHeld ?_ ?_
                          rotate_left
                          · rintro w' ⟨s0, s1, s2, s3, s4, s5, s6, s7, s8, s9, s10, s11⟩
                            go_simp
                            with_reducible rfl
                          rotate_left
                          · simp only [Act.put, List.setIfInBounds_toArray, List.set_cons_zero, List.set_cons_succ, i64_w, i32_w]
                            rfl
                          refine pure_ (i := 8) (N := some 63) (v := ?_) (a' := ?_) #[true, true, true, true, true, true, true, true, true, false, false, false] rfl rfl (any_of HT_.out (by kernel_rfl)) (fun _ _ _ h => h) (Or.inl ⟨by rfl, ?_⟩) ?_ ?_
                          rotate_left
                          · intro w'
                            go_simp
                            with_reducible rfl
                          rotate_left
                          · simp only [Act.put, List.setIfInBounds_toArray, List.set_cons_zero, List.set_cons_succ, i64_w, i32_w]
                            rfl
                          refine take_ (i := 9) (N := some 64) (v := ?_) (a' := ?_) #[true, true, true, true, true, true, true, true, true, true, false, false] rfl rfl (take_ofW HT_.out HW_.out (by kernel_rfl)) (fun _ _ _ h => h) (Or.inl ⟨by rfl, ?_⟩) hHeld ?_ ?_
                          rotate_left
                          · rintro w' ⟨s0, s1, s2, s3, s4, s5, s6, s7, s8, s9, s10, s11⟩
                            go_simp
                            with_reducible rfl
                          rotate_left
                          · simp only [Act.put, List.setIfInBounds_toArray, List.set_cons_zero, List.set_cons_succ, i64_w, i32_w]
                            rfl
                          refine one_ (i := 10) (N := some 65) #[true, true, true, true, true, true, true, true, true, true, true, false] rfl rfl (one_of HT_.out (by kernel_rfl)) (by decide) (fun K hK => ?_)
                          refine goes_ Tryz.func12 (by kernel_rfl) rfl #[.agg #[.int .i64 ((rd_T26 l0_2 x6_3).f0), .slice A326_1 ((rd_T26 l0_2 x6_3).f1).length c326_1, .slice A326_2 ((rd_T26 l0_2 x6_3).f2).length c326_2], .agg #[.int .i64 ((rd_T26 l1_2 x6_3).f0), .slice A327_1 ((rd_T26 l1_2 x6_3).f1).length c327_1, .slice A327_2 ((rd_T26 l1_2 x6_3).f2).length c327_2]] (by rfl) rfl rfl (by (try simp only [List.map_toArray, List.map_cons, List.map_nil]); first | done | rfl | (simp only [List.length_drop, List.length_take]; rfl)) ?_
                          with_reducible refine (ih k3 (by have := HJ2.out; have := HK2.out; have := HK3.out; omega) ((rd_T26 l0_2 x6_3).f0) _ _ ((rd_T26 l0_2 x6_3).f1) _ _ ((rd_T26 l0_2 x6_3).f2) ((rd_T26 l1_2 x6_3).f0) _ _ ((rd_T26 l1_2 x6_3).f1) _ _ ((rd_T26 l1_2 x6_3).f2) true _ ?side1 ?side2 ?side3 ?side4 ?side5 ?side6 ?side7 ?side8 A33.out).mono ?_
                          (case side1 => repeat (first | exact (Kd.C_below HR326_1.out HB.out) | (with_reducible refine Kd.C_alloc ?_ _) | (with_reducible refine Kd.C_drewN ?_ _) | (with_reducible refine Kd.C_drew ?_)))
                          (case side2 => exact HC326_1.out)
                          (case side3 => repeat (first | exact (Kd.C_below HR326_2.out HB.out) | (with_reducible refine Kd.C_alloc ?_ _) | (with_reducible refine Kd.C_drewN ?_ _) | (with_reducible refine Kd.C_drew ?_)))
                          (case side4 => exact HC326_2.out)
                          (case side5 => repeat (first | exact (Kd.C_below HR327_1.out HB.out) | (with_reducible refine Kd.C_alloc ?_ _) | (with_reducible refine Kd.C_drewN ?_ _) | (with_reducible refine Kd.C_drew ?_)))
                          (case side6 => exact HC327_1.out)
                          (case side7 => repeat (first | exact (Kd.C_below HR327_2.out HB.out) | (with_reducible refine Kd.C_alloc ?_ _) | (with_reducible refine Kd.C_drewN ?_ _) | (with_reducible refine Kd.C_drew ?_)))
                          (case side8 => exact HC327_2.out)
                          rintro e w38 ⟨rfl, hb⟩
                          refine ⟨_, rfl, ?_⟩
                          have n0_ := Aside0.mk (blk_below (g := gb322) (o := .cells #[.int .i64 a0_0, .slice A0_1 l0_1.length c0_1, .slice (some ad326) l0_2.length c0_2] 26 (0, 0)) (by (with_reducible repeat (first | refine blk_drewN ?_ _ | refine blk_drew ?_ | refine blk_alloc ?_ _)); exact BK322.out) hb)
                          have n1_ := Aside0.mk (blk_below (g := gb323) (o := .cells #[.int .i64 a1_0, .slice A1_1 l1_1.length c1_1, .slice (some ad327) l1_2.length c1_2] 26 (0, 0)) (by (with_reducible repeat (first | refine blk_drewN ?_ _ | refine blk_drew ?_ | refine blk_alloc ?_ _)); exact BK323.out) hb)
                          have n2_ := Aside0.mk (below_step (by repeat (first | (with_reducible first | exact HB.out | apply below_alloc | apply pw_below_drewN | apply below_drew1 | refine below_set ?_ GE322.out | refine below_set ?_ GE323.out) | exact HB.out)) hb)
                          clear BK322
                          clear BK323
                          clear HB
                          have BK322 := n0_
                          have BK323 := n1_
                          have HB := n2_
                          clear n0_ n1_ n2_
                          (try clear hb)
                          (try clear hb2)
                          (try clear hk)
                          (try clear hi)
                          refine hK.out _ _ ⟨(blk_cell BK322.out 0).trans rfl, (blk_cell BK322.out 1).trans rfl, (blk_cell BK322.out 2).trans rfl, (blk_cell BK323.out 0).trans rfl, (blk_cell BK323.out 1).trans rfl, (blk_cell BK323.out 2).trans rfl, ((HB.out.cell (World.block_lt_of_cell? w _ hw326_0)).trans hw326_0), ((HB.out.cell (World.block_lt_of_cell? w _ hw326_1)).trans hw326_1), ((HB.out.cell (World.block_lt_of_cell? w _ hw326_2)).trans hw326_2), ((HB.out.cell (World.block_lt_of_cell? w _ hw327_0)).trans hw327_0), ((HB.out.cell (World.block_lt_of_cell? w _ hw327_1)).trans hw327_1), ((HB.out.cell (World.block_lt_of_cell? w _ hw327_2)).trans hw327_2)⟩ (fun hHeld => ?_)
                          clear hK K
                          refine norm_ (a' := ?_) ?_ ?_
                          rotate_left
                          · show Act.put _ (some 65) _ = _
                            simp only [Act.put, List.setIfInBounds_toArray, List.set_cons_zero, List.set_cons_succ, i64_w, i32_w]
                            rfl
                          refine pure_ (i := 11) (N := some 66) (v := ?_) (a' := ?_) #[true, true, true, true, true, true, true, true, true, true, true, true] rfl rfl (any_of HT_.out (by kernel_rfl)) (fun _ _ _ h => h) (Or.inl ⟨by rfl, ?_⟩) ?_ ?_
                          rotate_left
                          · intro w'
                            go_simp
                            with_reducible rfl
                          rotate_left
                          · simp only [Act.put, List.setIfInBounds_toArray, List.set_cons_zero, List.set_cons_succ, i64_w, i32_w]
                            rfl
                          refine done_ (done_of HT_.out (by kernel_rfl)) ?_
                          try go_wp2
                          go_roundg k3
                          case measure => have := HJ2.out; have := HK2.out; have := HK3.out; omega
                          case rel => exact ⟨(wrap64 (x6_3 + 1)), (by first | rfl | (simp; done) | (simp [*]; done)), H', ⟨by have := HJ2.out; have := HK2.out; have := HK3.out; omega⟩, ⟨by (with_reducible repeat (first | refine blk_drewN ?_ _ | refine blk_drew ?_ | refine blk_alloc ?_ _)); exact BK322.out⟩, ⟨by (with_reducible repeat (first | refine blk_drewN ?_ _ | refine blk_drew ?_ | refine blk_alloc ?_ _)); exact BK323.out⟩, ⟨by repeat (first | (with_reducible first | exact HB.out | apply below_alloc | apply pw_below_drewN | apply below_drew1 | refine below_set ?_ GE322.out | refine below_set ?_ GE323.out) | exact HB.out)⟩⟩
                        · replace c34 := Bool.eq_false_iff.mpr c34
                          subst c34
                          have H1 : (some false) = some r := by rw [if_neg (show ¬ (false = true) by decide)] at H; exact H
                          clear H
                          have H := H1
                          clear H1
                          obtain rfl := Option.some.inj H
                          have hnb39 := NB322_323.out
                          have hnc39 := NB323_322.out
                          have hcz40_0 : wr.cell? ⟨gb322, 0, none⟩ = some (.int .i64 a0_0) := (blk_cell BK322.out 0).trans rfl
                          have hcz40_1 : wr.cell? ⟨gb322, 1, none⟩ = some (.slice A0_1 l0_1.length c0_1) := (blk_cell BK322.out 1).trans rfl
                          have hcz40_2 : wr.cell? ⟨gb322, 2, none⟩ = some (.slice A0_2 l0_2.length c0_2) := (blk_cell BK322.out 2).trans rfl
                          have hfz40_0 := blk_frozen BK322.out 0
                          have hfz40_1 := blk_frozen BK322.out 1
                          have hfz40_2 := blk_frozen BK322.out 2
                          try go_wp2
                          have n0_ := Aside0.mk (blk_drew BK322.out)
                          have n1_ := Aside0.mk (blk_drew BK323.out)
                          have n2_ := Aside0.mk (below_drew1 HB.out)
                          clear BK322
                          clear BK323
                          clear HB
                          have BK322 := n0_
                          have BK323 := n1_
                          have HB := n2_
                          clear n0_ n1_ n2_
                          have p326 : 0 ≤ (x6_3 : Int) := of_decide_eq_true (by first | (with_reducible assumption) | assumption)
                          have q326 : x6_3 < (l0_2.length : Int) := of_decide_eq_true (by first | (with_reducible assumption) | assumption)
                          obtain ⟨ad326, A326_1, c326_1, A326_2, c326_2, e326, hx326_0, hx326_1, hx326_2, hl326_1, hi326_1, hl326_2, hi326_2⟩ := at_T26 HR0_2.out x6_3 p326 q326
                          have hw326_2 := hx326_2
                          have hw326_1 := hx326_1
                          have hw326_0 := hx326_0
                          cases e326
                          replace hx326_0 := (HB.out.cell (World.block_lt_of_cell? w _ hx326_0)).trans hx326_0
                          replace hx326_1 := (HB.out.cell (World.block_lt_of_cell? w _ hx326_1)).trans hx326_1
                          replace hx326_2 := (HB.out.cell (World.block_lt_of_cell? w _ hx326_2)).trans hx326_2
                          have HR326_1 := Aside0.mk hi326_1
                          have HC326_1 := Aside0.mk hl326_1
                          clear hi326_1 hl326_1
                          have HR326_2 := Aside0.mk hi326_2
                          have HC326_2 := Aside0.mk hl326_2
                          clear hi326_2 hl326_2
                          replace p326 := eq_true p326
                          replace q326 := eq_true q326
                          have p327 : 0 ≤ (x6_3 : Int) := of_decide_eq_true (by first | (with_reducible assumption) | assumption)
                          have q327 : x6_3 < (l1_2.length : Int) := of_decide_eq_true (by first | (with_reducible assumption) | assumption)
                          obtain ⟨ad327, A327_1, c327_1, A327_2, c327_2, e327, hx327_0, hx327_1, hx327_2, hl327_1, hi327_1, hl327_2, hi327_2⟩ := at_T26 HR1_2.out x6_3 p327 q327
                          have hw327_2 := hx327_2
                          have hw327_1 := hx327_1
                          have hw327_0 := hx327_0
                          cases e327
                          replace hx327_0 := (HB.out.cell (World.block_lt_of_cell? w _ hx327_0)).trans hx327_0
                          replace hx327_1 := (HB.out.cell (World.block_lt_of_cell? w _ hx327_1)).trans hx327_1
                          replace hx327_2 := (HB.out.cell (World.block_lt_of_cell? w _ hx327_2)).trans hx327_2
                          have HR327_1 := Aside0.mk hi327_1
                          have HC327_1 := Aside0.mk hl327_1
                          clear hi327_1 hl327_1
                          have HR327_2 := Aside0.mk hi327_2
                          have HC327_2 := Aside0.mk hl327_2
                          clear hi327_2 hl327_2
                          replace p327 := eq_true p327
                          replace q327 := eq_true q327
                          refine start_ (n := 12) (S := fun w' => w'.cell? ⟨gb322, 0, none⟩ = some (.int .i64 a0_0) ∧ w'.cell? ⟨gb322, 1, none⟩ = some (.slice A0_1 l0_1.length c0_1) ∧ w'.cell? ⟨gb322, 2, none⟩ = some (.slice (some ad326) l0_2.length c0_2) ∧ w'.cell? ⟨gb323, 0, none⟩ = some (.int .i64 a1_0) ∧ w'.cell? ⟨gb323, 1, none⟩ = some (.slice A1_1 l1_1.length c1_1) ∧ w'.cell? ⟨gb323, 2, none⟩ = some (.slice (some ad327) l1_2.length c1_2) ∧ w'.cell? (ad326.add ((x6_3).toNat * 3)) = some (.int .i64 ((rd_T26 l0_2 x6_3).f0)) ∧ w'.cell? ⟨(ad326.add ((x6_3).toNat * 3)).block, (ad326.add ((x6_3).toNat * 3)).off + 1, none⟩ = some (.slice A326_1 ((rd_T26 l0_2 x6_3).f1).length c326_1) ∧ w'.cell? ⟨(ad326.add ((x6_3).toNat * 3)).block, (ad326.add ((x6_3).toNat * 3)).off + 2, none⟩ = some (.slice A326_2 ((rd_T26 l0_2 x6_3).f2).length c326_2) ∧ w'.cell? (ad327.add ((x6_3).toNat * 3)) = some (.int .i64 ((rd_T26 l1_2 x6_3).f0)) ∧ w'.cell? ⟨(ad327.add ((x6_3).toNat * 3)).block, (ad327.add ((x6_3).toNat * 3)).off + 1, none⟩ = some (.slice A327_1 ((rd_T26 l1_2 x6_3).f1).length c327_1) ∧ w'.cell? ⟨(ad327.add ((x6_3).toNat * 3)).block, (ad327.add ((x6_3).toNat * 3)).off + 2, none⟩ = some (.slice A327_2 ((rd_T26 l1_2 x6_3).f2).length c327_2)) (ds := []) #[false, false, false, false, false, false, false, false, false, false, false, false] (by kernel_rfl) rfl rfl ⟨(blk_cell BK322.out 0).trans rfl, (blk_cell BK322.out 1).trans rfl, (blk_cell BK322.out 2).trans rfl, (blk_cell BK323.out 0).trans rfl, (blk_cell BK323.out 1).trans rfl, (blk_cell BK323.out 2).trans rfl, ((HB.out.cell (World.block_lt_of_cell? w _ hw326_0)).trans hw326_0), ((HB.out.cell (World.block_lt_of_cell? w _ hw326_1)).trans hw326_1), ((HB.out.cell (World.block_lt_of_cell? w _ hw326_2)).trans hw326_2), ((HB.out.cell (World.block_lt_of_cell? w _ hw327_0)).trans hw327_0), ((HB.out.cell (World.block_lt_of_cell? w _ hw327_1)).trans hw327_1), ((HB.out.cell (World.block_lt_of_cell? w _ hw327_2)).trans hw327_2)⟩ (fun hHeld => ?_); refine with_tabW colloquyref03_Same.tab11 colloquyref03_Same.bits11 (fun HT_ HW_ => ?_)
                          generalize wr.drew = w41 at BK322 BK323 HB HR326_1 HR326_2 HR327_1 HR327_2 hx326_0 hx326_1 hx326_2 hx327_0 hx327_1 hx327_2 hHeld ⊢
                          refine pure_ (i := 0) (N := some 55) (v := ?_) (a' := ?_) #[true, false, false, false, false, false, false, false, false, false, false, false] rfl rfl (any_of HT_.out (by kernel_rfl)) (fun _ _ _ h => h) (Or.inl ⟨by rfl, ?_⟩) ?_ ?_
                          rotate_left
                          · intro w'
                            go_simp
                            with_reducible rfl
                          rotate_left
                          · simp only [Act.put, List.setIfInBounds_toArray, List.set_cons_zero, List.set_cons_succ, i64_w, i32_w]
                            rfl
                          refine pure_ (i := 2) (N := some 57) (v := ?_) (a' := ?_) #[true, false, true, false, false, false, false, false, false, false, false, false] rfl rfl (any_of HT_.out (by kernel_rfl)) (fun _ _ _ h => h) (Or.inl ⟨by rfl, ?_⟩) ?_ ?_
                          rotate_left
                          · intro w'
                            go_simp
                            with_reducible rfl
                          rotate_left
                          · simp only [Act.put, List.setIfInBounds_toArray, List.set_cons_zero, List.set_cons_succ, i64_w, i32_w]
                            rfl
                          refine pure_ (i := 5) (N := some 60) (v := ?_) (a' := ?_) #[true, false, true, false, false, true, false, false, false, false, false, false] rfl rfl (any_of HT_.out (by kernel_rfl)) (fun _ _ _ h => h) (Or.inl ⟨by rfl, ?_⟩) ?_ ?_
                          rotate_left
                          · intro w'
                            go_simp
                            with_reducible rfl
                          rotate_left
                          · simp only [Act.put, List.setIfInBounds_toArray, List.set_cons_zero, List.set_cons_succ, i64_w, i32_w]
                            rfl
                          refine pure_ (i := 7) (N := some 62) (v := ?_) (a' := ?_) #[true, false, true, false, false, true, false, true, false, false, false, false] rfl rfl (any_of HT_.out (by kernel_rfl)) (fun _ _ _ h => h) (Or.inl ⟨by rfl, ?_⟩) ?_ ?_
                          rotate_left
                          · intro w'
                            go_simp
                            with_reducible rfl
                          rotate_left
                          · simp only [Act.put, List.setIfInBounds_toArray, List.set_cons_zero, List.set_cons_succ, i64_w, i32_w]
                            rfl
                          refine take_ (i := 1) (N := some 56) (v := ?_) (a' := ?_) #[true, true, true, false, false, true, false, true, false, false, false, false] rfl rfl (take_ofW HT_.out HW_.out (by kernel_rfl)) (fun _ _ _ h => h) (Or.inl ⟨by rfl, ?_⟩) hHeld ?_ ?_
                          rotate_left
                          · rintro w' ⟨s0, s1, s2, s3, s4, s5, s6, s7, s8, s9, s10, s11⟩
                            go_simp
                            with_reducible rfl
                          rotate_left
                          · simp only [Act.put, List.setIfInBounds_toArray, List.set_cons_zero, List.set_cons_succ, i64_w, i32_w]
                            rfl
                          refine pure_ (i := 3) (N := some 58) (v := ?_) (a' := ?_) #[true, true, true, true, false, true, false, true, false, false, false, false] rfl rfl (any_of HT_.out (by kernel_rfl)) (fun _ _ _ h => h) (Or.inl ⟨by rfl, ?_⟩) ?_ ?_
                          rotate_left
                          · intro w'
                            go_simp
                            with_reducible rfl
                          rotate_left
                          · simp only [Act.put, List.setIfInBounds_toArray, List.set_cons_zero, List.set_cons_succ, i64_w, i32_w]
                            rfl
                          refine take_ (i := 4) (N := some 59) (v := ?_) (a' := ?_) #[true, true, true, true, true, true, false, true, false, false, false, false] rfl rfl (take_ofW HT_.out HW_.out (by kernel_rfl)) (fun _ _ _ h => h) (Or.inl ⟨by rfl, ?_⟩) hHeld ?_ ?_
                          rotate_left
                          · rintro w' ⟨s0, s1, s2, s3, s4, s5, s6, s7, s8, s9, s10, s11⟩
                            go_simp
                            with_reducible rfl
                          rotate_left
                          · simp only [Act.put, List.setIfInBounds_toArray, List.set_cons_zero, List.set_cons_succ, i64_w, i32_w]
                            rfl
                          refine take_ (i := 6) (N := some 61) (v := ?_) (a' := ?_) #[true, true, true, true, true, true, true, true, false, false, false, false] rfl rfl (take_ofW HT_.out HW_.out (by kernel_rfl)) (fun _ _ _ h => h) (Or.inl ⟨by rfl, ?_⟩) hHeld ?_ ?_
                          rotate_left
                          · rintro w' ⟨s0, s1, s2, s3, s4, s5, s6, s7, s8, s9, s10, s11⟩
                            go_simp
                            with_reducible rfl
                          rotate_left
                          · simp only [Act.put, List.setIfInBounds_toArray, List.set_cons_zero, List.set_cons_succ, i64_w, i32_w]
                            rfl
                          refine pure_ (i := 8) (N := some 63) (v := ?_) (a' := ?_) #[true, true, true, true, true, true, true, true, true, false, false, false] rfl rfl (any_of HT_.out (by kernel_rfl)) (fun _ _ _ h => h) (Or.inl ⟨by rfl, ?_⟩) ?_ ?_
                          rotate_left
                          · intro w'
                            go_simp
                            with_reducible rfl
                          rotate_left
                          · simp only [Act.put, List.setIfInBounds_toArray, List.set_cons_zero, List.set_cons_succ, i64_w, i32_w]
                            rfl
                          refine take_ (i := 9) (N := some 64) (v := ?_) (a' := ?_) #[true, true, true, true, true, true, true, true, true, true, false, false] rfl rfl (take_ofW HT_.out HW_.out (by kernel_rfl)) (fun _ _ _ h => h) (Or.inl ⟨by rfl, ?_⟩) hHeld ?_ ?_
                          rotate_left
                          · rintro w' ⟨s0, s1, s2, s3, s4, s5, s6, s7, s8, s9, s10, s11⟩
                            go_simp
                            with_reducible rfl
                          rotate_left
                          · simp only [Act.put, List.setIfInBounds_toArray, List.set_cons_zero, List.set_cons_succ, i64_w, i32_w]
                            rfl
                          refine one_ (i := 10) (N := some 65) #[true, true, true, true, true, true, true, true, true, true, true, false] rfl rfl (one_of HT_.out (by kernel_rfl)) (by decide) (fun K hK => ?_)
                          refine goes_ Tryz.func12 (by kernel_rfl) rfl #[.agg #[.int .i64 ((rd_T26 l0_2 x6_3).f0), .slice A326_1 ((rd_T26 l0_2 x6_3).f1).length c326_1, .slice A326_2 ((rd_T26 l0_2 x6_3).f2).length c326_2], .agg #[.int .i64 ((rd_T26 l1_2 x6_3).f0), .slice A327_1 ((rd_T26 l1_2 x6_3).f1).length c327_1, .slice A327_2 ((rd_T26 l1_2 x6_3).f2).length c327_2]] (by rfl) rfl rfl (by (try simp only [List.map_toArray, List.map_cons, List.map_nil]); first | done | rfl | (simp only [List.length_drop, List.length_take]; rfl)) ?_
                          with_reducible refine (ih k3 (by have := HJ2.out; have := HK2.out; have := HK3.out; omega) ((rd_T26 l0_2 x6_3).f0) _ _ ((rd_T26 l0_2 x6_3).f1) _ _ ((rd_T26 l0_2 x6_3).f2) ((rd_T26 l1_2 x6_3).f0) _ _ ((rd_T26 l1_2 x6_3).f1) _ _ ((rd_T26 l1_2 x6_3).f2) false _ ?side1 ?side2 ?side3 ?side4 ?side5 ?side6 ?side7 ?side8 A33.out).mono ?_
                          (case side1 => repeat (first | exact (Kd.C_below HR326_1.out HB.out) | (with_reducible refine Kd.C_alloc ?_ _) | (with_reducible refine Kd.C_drewN ?_ _) | (with_reducible refine Kd.C_drew ?_)))
                          (case side2 => exact HC326_1.out)
                          (case side3 => repeat (first | exact (Kd.C_below HR326_2.out HB.out) | (with_reducible refine Kd.C_alloc ?_ _) | (with_reducible refine Kd.C_drewN ?_ _) | (with_reducible refine Kd.C_drew ?_)))
                          (case side4 => exact HC326_2.out)
                          (case side5 => repeat (first | exact (Kd.C_below HR327_1.out HB.out) | (with_reducible refine Kd.C_alloc ?_ _) | (with_reducible refine Kd.C_drewN ?_ _) | (with_reducible refine Kd.C_drew ?_)))
                          (case side6 => exact HC327_1.out)
                          (case side7 => repeat (first | exact (Kd.C_below HR327_2.out HB.out) | (with_reducible refine Kd.C_alloc ?_ _) | (with_reducible refine Kd.C_drewN ?_ _) | (with_reducible refine Kd.C_drew ?_)))
                          (case side8 => exact HC327_2.out)
                          rintro e w42 ⟨rfl, hb⟩
                          refine ⟨_, rfl, ?_⟩
                          have n0_ := Aside0.mk (blk_below (g := gb322) (o := .cells #[.int .i64 a0_0, .slice A0_1 l0_1.length c0_1, .slice (some ad326) l0_2.length c0_2] 26 (0, 0)) (by (with_reducible repeat (first | refine blk_drewN ?_ _ | refine blk_drew ?_ | refine blk_alloc ?_ _)); exact BK322.out) hb)
                          have n1_ := Aside0.mk (blk_below (g := gb323) (o := .cells #[.int .i64 a1_0, .slice A1_1 l1_1.length c1_1, .slice (some ad327) l1_2.length c1_2] 26 (0, 0)) (by (with_reducible repeat (first | refine blk_drewN ?_ _ | refine blk_drew ?_ | refine blk_alloc ?_ _)); exact BK323.out) hb)
                          have n2_ := Aside0.mk (below_step (by repeat (first | (with_reducible first | exact HB.out | apply below_alloc | apply pw_below_drewN | apply below_drew1 | refine below_set ?_ GE322.out | refine below_set ?_ GE323.out) | exact HB.out)) hb)
                          clear BK322
                          clear BK323
                          clear HB
                          have BK322 := n0_
                          have BK323 := n1_
                          have HB := n2_
                          clear n0_ n1_ n2_
                          (try clear hb)
                          (try clear hb2)
                          (try clear hk)
                          (try clear hi)
                          refine hK.out _ _ ⟨(blk_cell BK322.out 0).trans rfl, (blk_cell BK322.out 1).trans rfl, (blk_cell BK322.out 2).trans rfl, (blk_cell BK323.out 0).trans rfl, (blk_cell BK323.out 1).trans rfl, (blk_cell BK323.out 2).trans rfl, ((HB.out.cell (World.block_lt_of_cell? w _ hw326_0)).trans hw326_0), ((HB.out.cell (World.block_lt_of_cell? w _ hw326_1)).trans hw326_1), ((HB.out.cell (World.block_lt_of_cell? w _ hw326_2)).trans hw326_2), ((HB.out.cell (World.block_lt_of_cell? w _ hw327_0)).trans hw327_0), ((HB.out.cell (World.block_lt_of_cell? w _ hw327_1)).trans hw327_1), ((HB.out.cell (World.block_lt_of_cell? w _ hw327_2)).trans hw327_2)⟩ (fun hHeld => ?_)
                          clear hK K
                          refine norm_ (a' := ?_) ?_ ?_
                          rotate_left
                          · show Act.put _ (some 65) _ = _
                            simp only [Act.put, List.setIfInBounds_toArray, List.set_cons_zero, List.set_cons_succ, i64_w, i32_w]
                            rfl
                          refine pure_ (i := 11) (N := some 66) (v := ?_) (a' := ?_) #[true, true, true, true, true, true, true, true, true, true, true, true] rfl rfl (any_of HT_.out (by kernel_rfl)) (fun _ _ _ h => h) (Or.inl ⟨by rfl, ?_⟩) ?_ ?_
                          rotate_left
                          · intro w'
                            go_simp
                            with_reducible rfl
                          rotate_left
                          · simp only [Act.put, List.setIfInBounds_toArray, List.set_cons_zero, List.set_cons_succ, i64_w, i32_w]
                            rfl
                          refine done_ (done_of HT_.out (by kernel_rfl)) ?_
                          try go_wp2
                          go_ret
                          exact ⟨by first | rfl | (simp [errW_none, errW_some] <;> rfl) | (simp [*, errW_none, errW_some] <;> rfl), by repeat (first | (with_reducible first | exact HB.out | apply below_alloc | apply pw_below_drewN | apply below_drew1 | refine below_set ?_ GE322.out | refine below_set ?_ GE323.out) | exact HB.out)⟩
                      · rw [if_neg c32] at H
                        exact absurd H (by simp)
                    · rw [if_neg c31] at H
                      exact absurd H (by simp)
                  · rw [if_neg c30] at H
                    have c30b0 : decide (x6_3 < (l0_2.length : Int)) = false := decide_eq_false c30
                    clear c30
                    obtain rfl := Option.some.inj H
                    have hnb43 := NB322_323.out
                    have hnc43 := NB323_322.out
                    have hcz44_0 : wr.cell? ⟨gb322, 0, none⟩ = some (.int .i64 a0_0) := (blk_cell BK322.out 0).trans rfl
                    have hcz44_1 : wr.cell? ⟨gb322, 1, none⟩ = some (.slice A0_1 l0_1.length c0_1) := (blk_cell BK322.out 1).trans rfl
                    have hcz44_2 : wr.cell? ⟨gb322, 2, none⟩ = some (.slice A0_2 l0_2.length c0_2) := (blk_cell BK322.out 2).trans rfl
                    have hfz44_0 := blk_frozen BK322.out 0
                    have hfz44_1 := blk_frozen BK322.out 1
                    have hfz44_2 := blk_frozen BK322.out 2
                    go_wp2
                    go_ret
                    exact ⟨by first | rfl | (simp [errW_none, errW_some] <;> rfl) | (simp [*, errW_none, errW_some] <;> rfl), by repeat (first | (with_reducible first | exact HB.out | apply below_alloc | apply pw_below_drewN | apply below_drew1 | refine below_set ?_ GE322.out | refine below_set ?_ GE323.out) | exact HB.out)⟩
end Go.Proofs.YtelbgmpeghhakaaGreat.PA
end
section
namespace Go.Proofs.YtelbgmpeghhakaaGreat.PA
open Go.RowKit Go.Proofs.YtelbgmpeghhakaaGreatW.PrintWords Go.Proofs.YtelbgmpeghhakaaGreatW.PrintLast Go.Proofs.YtelbgmpeghhakaaGreatW.PrintMore
set_option linter.unusedVariables false
set_option linter.unusedSimpArgs false
inductive SmallN : S26 → Prop
  | mk (x : S26) (h1 : x.f1.length ≤ 4611686018427387904) (h2 : x.f2.length ≤ 4611686018427387904) (h3 : ∀ y ∈ x.f2, SmallN y) : SmallN x
theorem wr64 {n : Int} (h : -9223372036854775808 ≤ n ∧ n ≤ 9223372036854775807) : wrap64 n = n := by unfold wrap64; omega
theorem same_l1 (n : Int) (r : List S55) (ks : List S26) (hl : ks.length ≤ 4611686018427387904) (h : ∀ y ∈ ks, ∃ K, ∀ k, K ≤ k → colloquyref03_Same.f k y.f0 y.f1 y.f2 y.f0 y.f1 y.f2 = some true) :
    ∀ (m : Nat) (i : Int), 0 ≤ i → (ks.length : Int) - i ≤ m → ∃ K, ∀ k, K ≤ k → colloquyref03_Same.l1 k i n r ks n r ks = some true
  | 0, i, h0, hm => ⟨1, fun k hk => by
    obtain ⟨k, rfl⟩ : ∃ k', k = k' + 1 := ⟨k - 1, by omega⟩
    rw [colloquyref03_Same.l1, if_neg (by omega)]⟩
  | m + 1, i, h0, hm => by
    by_cases hi : i < (ks.length : Int)
    · obtain ⟨K1, h1⟩ := h (ks.getD i.toNat z26) (by
        have hlt : i.toNat < ks.length := by omega
        rw [List.getD_eq_getElem?_getD, List.getElem?_eq_getElem hlt]
        exact List.getElem_mem hlt)
      obtain ⟨K2, h2⟩ := same_l1 n r ks hl h m (i + 1) (by omega) (by omega)
      refine ⟨K1 + K2 + 1, fun k hk => ?_⟩
      obtain ⟨k, rfl⟩ : ∃ k', k = k' + 1 := ⟨k - 1, by omega⟩
      rw [colloquyref03_Same.l1, if_pos hi, if_pos h0, if_pos hi]
      have e := h1 k (by omega)
      unfold rd_T26
      rw [e, Option.bind_some, if_pos rfl, wr64 (by omega)]
      exact h2 k (by omega)
    · refine ⟨1, fun k hk => ?_⟩
      obtain ⟨k, rfl⟩ : ∃ k', k = k' + 1 := ⟨k - 1, by omega⟩
      rw [colloquyref03_Same.l1, if_neg hi]
theorem same_l0 (n : Int) (r : List S55) (ks : List S26) (hl : r.length ≤ 4611686018427387904) (h : ∃ K, ∀ k, K ≤ k → colloquyref03_Same.l1 k 0 n r ks n r ks = some true) :
    ∀ (m : Nat) (i : Int), 0 ≤ i → (r.length : Int) - i ≤ m → ∃ K, ∀ k, K ≤ k → colloquyref03_Same.l0 k i n r ks n r ks = some true
  | 0, i, h0, hm => by
    obtain ⟨K, hK⟩ := h
    refine ⟨K + 1, fun k hk => ?_⟩
    obtain ⟨k, rfl⟩ : ∃ k', k = k' + 1 := ⟨k - 1, by omega⟩
    rw [colloquyref03_Same.l0, if_neg (by omega)]
    exact hK k (by omega)
  | m + 1, i, h0, hm => by
    by_cases hi : i < (r.length : Int)
    · obtain ⟨K2, h2⟩ := same_l0 n r ks hl h m (i + 1) (by omega) (by omega)
      refine ⟨K2 + 1, fun k hk => ?_⟩
      obtain ⟨k, rfl⟩ : ∃ k', k = k' + 1 := ⟨k - 1, by omega⟩
      rw [colloquyref03_Same.l0, if_pos hi, if_pos h0, if_pos hi, if_neg (by simp), wr64 (by omega)]
      exact h2 k (by omega)
    · obtain ⟨K, hK⟩ := h
      refine ⟨K + 1, fun k hk => ?_⟩
      obtain ⟨k, rfl⟩ : ∃ k', k = k' + 1 := ⟨k - 1, by omega⟩
      rw [colloquyref03_Same.l0, if_neg hi]
      exact hK k (by omega)
theorem same_refl {x : S26} (h : SmallN x) : ∃ K, ∀ k, K ≤ k → colloquyref03_Same.f k x.f0 x.f1 x.f2 x.f0 x.f1 x.f2 = some true := by
  induction h with
  | mk x h1 h2 h3 ih =>
    have e1 := same_l1 x.f0 x.f1 x.f2 h2 ih x.f2.length 0 (Int.le_refl _) (by omega)
    obtain ⟨K, hK⟩ := same_l0 x.f0 x.f1 x.f2 h1 e1 x.f1.length 0 (Int.le_refl _) (by omega)
    refine ⟨K + 2, fun k hk => ?_⟩
    obtain ⟨k, rfl⟩ : ∃ k', k = k' + 2 := ⟨k - 2, by omega⟩
    rw [colloquyref03_Same.f, if_pos rfl, if_pos rfl, bne_self_eq_false, colloquyref03_Same.j0, if_neg (by decide)]
    exact hK k (by omega)
theorem Same_true (n : Int) (A1 A2 A3 A4 : Option Addr) (c1 c2 c3 c4 : Nat) (r : List S55) (ks : List S26) (w : World) (hs : SmallN ⟨n, r, ks⟩) (h1 : Kd.C k55 w A1 r.length r) (l1 : r.length ≤ c1) (h2 : Kd.C k26 w A2 ks.length ks) (l2 : ks.length ≤ c2) (h3 : Kd.C k55 w A3 r.length r) (l3 : r.length ≤ c3) (h4 : Kd.C k26 w A4 ks.length ks) (l4 : ks.length ≤ c4) :
    Calls Tryz.prog 12 #[.agg #[.int .i64 n, .slice A1 r.length c1, .slice A2 ks.length c2], .agg #[.int .i64 n, .slice A3 r.length c3, .slice A4 ks.length c4]] w fun e w' => e = .returned (.bool true) ∧ Below w.heap.size w w' := by
  obtain ⟨K, hK⟩ := same_refl hs
  exact colloquyref03_Same.calls K n A1 c1 r A2 c2 ks n A3 c3 r A4 c4 ks true w h1 l1 h2 l2 h3 l3 h4 l4 (hK K (Nat.le_refl _))
end Go.Proofs.YtelbgmpeghhakaaGreat.PA
end
section
namespace Go.Proofs.YtelbgmpeghhakaaGreat.PA
open Go.RowKit Go.Proofs.YtelbgmpeghhakaaGreatW.PrintWords Go.Proofs.YtelbgmpeghhakaaGreatW.PrintLast Go.Proofs.YtelbgmpeghhakaaGreatW.PrintMore
set_option linter.unusedVariables false
set_option linter.unusedSimpArgs false
theorem small_set (rs : List RR) (h : rs.length ≤ 4611686018427387904) : SmallN (setN rs) := SmallN.mk _ h (Nat.zero_le _) (fun y hy => by cases hy)
theorem small_one (c : Int) : SmallN (oneN c) := small_set _ (by show (1 : Nat) ≤ _; omega)
theorem small_all : SmallN allN := small_set _ (by show (1 : Nat) ≤ _; omega)
theorem small_star : SmallN starN := SmallN.mk _ (Nat.zero_le _) (by show (1 : Nat) ≤ _; omega) (fun y hy => by rw [List.mem_singleton.1 hy]; exact small_all)
theorem small_snoc {acc : List NN} {x : NN} (h : ∀ y ∈ acc, SmallN y) (hx : SmallN x) : ∀ y ∈ acc ++ [x], SmallN y := fun y hy => by
  rcases List.mem_append.1 hy with h1 | h1
  · exact h y h1
  · rw [List.mem_singleton.1 h1]; exact hx
theorem parseS_small : ∀ (k : Nat) (t : List Int) (acc K : List NN), parseS k t acc = .inl K → (∀ y ∈ acc, SmallN y) → (∀ y ∈ K, SmallN y) ∧ K.length ≤ acc.length + t.length
  | 0, t, acc, K, h, _ => by cases h
  | k + 1, [], acc, K, h, ha => by rw [parseS] at h; cases h; exact ⟨ha, by simp⟩
  | k + 1, c :: t, acc, K, h, ha => by
    rw [parseS] at h
    cases hb : byteS (c :: t) with
    | none => rw [hb] at h; cases h
    | some v =>
      obtain ⟨x, q, r⟩ := v
      have hlt := byteS_lt hb
      rw [hb] at h
      simp only at h
      have ih := fun (z : NN) (hz : SmallN z) (r' : List Int) (hr : r'.length ≤ r.length) (h' : parseS k r' (acc ++ [z]) = .inl K) => parseS_small k r' (acc ++ [z]) K h' (small_snoc ha hz)
      have fin : ∀ (z : NN) (hz : SmallN z) (r' : List Int) (hr : r'.length ≤ r.length) (h' : parseS k r' (acc ++ [z]) = .inl K), (∀ y ∈ K, SmallN y) ∧ K.length ≤ acc.length + (c :: t).length := fun z hz r' hr h' => by
        obtain ⟨h1, h2⟩ := ih z hz r' hr h'
        rw [List.length_append, List.length_singleton] at h2
        exact ⟨h1, by omega⟩
      split at h
      · exact fin _ (small_one x) r (Nat.le_refl _) h
      split at h
      · exact fin _ small_all r (Nat.le_refl _) h
      split at h
      · exact fin _ small_star r (Nat.le_refl _) h
      split at h
      · cases hc : classT r with
        | inr v => rw [hc] at h; cases h
        | inl v =>
          obtain ⟨rs, nt, r2⟩ := v
          have hc3 := (classT_app [] hc).2
          rw [hc] at h
          exact fin _ (small_set _ (by have := canonN_len (fun c => inR rs c != nt) 256 (Nat.le_refl _); show (canonN _ 256).length ≤ _; omega)) r2 hc3 h
      · exact fin _ (small_one x) r (Nat.le_refl _) h
theorem parseG_small (s : ByteArray) (k : Int) : SmallN (⟨k, [], (parseG s).2.1⟩ : NN) := by
  unfold parseG
  by_cases hl : 256 < (s.size : Int)
  · rw [if_pos hl]; exact SmallN.mk _ (Nat.zero_le _) (Nat.zero_le _) (fun y hy => by cases hy)
  · rw [if_neg hl]
    cases hp : parseS (s.size + 1) (bytesOf s) [] with
    | inr v => exact SmallN.mk _ (Nat.zero_le _) (Nat.zero_le _) (fun y hy => by cases hy)
    | inl K =>
      obtain ⟨h1, h2⟩ := parseS_small _ _ _ _ hp (fun y hy => by cases hy)
      rw [bytesOf_length] at h2
      exact SmallN.mk _ (Nat.zero_le _) (by show K.length ≤ _; simp only [List.length_nil] at h2; omega) h1
end Go.Proofs.YtelbgmpeghhakaaGreat.PA
end
section
namespace Go.Proofs.YtelbgmpeghhakaaGreat.PA
open Go.RowKit Go.Proofs.YtelbgmpeghhakaaGreatW.PrintWords Go.Proofs.YtelbgmpeghhakaaGreatW.PrintLast Go.Proofs.YtelbgmpeghhakaaGreatW.PrintMore
set_option linter.unusedVariables false
set_option linter.unusedSimpArgs false
namespace GGlobT_
theorem gwagg26 : ∀ w, (isAgg 26).run Tryz.prog w = .ok true w := fun _ => by kernel_rfl
theorem gwsiz26 : ∀ w, (sizeOf 26).run Tryz.prog w = .ok 3 w := fun _ => by kernel_rfl
theorem gwzer26 : ∀ w, (zeroValue 26).run Tryz.prog w = .ok (.agg #[.int .i64 0, .slice none 0 0, .slice none 0 0]) w := fun _ => by kernel_rfl
set_option maxHeartbeats 4000000 in
set_option maxRecDepth 100000 in
theorem GlobParses_walk (a0 : ByteArray) (w : World) (h0 : True) :
    Calls Tryz.prog 3 #[.string a0] w fun e w' => e = .returned (.bool true) ∧ Below w.heap.size w w' := by
 refine gw_start (N := 36) (vs := [.string a0]) Tryz.func3 rfl rfl (by simp) fun a HF HO => ?_
 replace HO : Own w w [] := HO
 refine gR fun K1 hK1 => ?_
 refine V HF (op_assign rfl (ev_c _ _)) ?_
 intro _ H3; clear HF
 refine gE hK1 ?_
 refine gw_seq fun K4 hK4 => ?_
 refine gR fun K5 hK5 => ?_
 refine gw_call H3 (want_none rfl) rfl (by decide) (op_callL Tryz.func9 (by kernel_rfl) rfl rfl ar_nil) (alive_walk _) ?_
 rintro e6 w7 ⟨rfl, hb8⟩
 refine ⟨_, rfl, fun _ H10 => ?_⟩
 have O11 := HO.after hb8
 clear H3 HO hb8
 refine V H10 (op_not rfl (H10.ev rfl)) ?_
 intro _ H14; clear H10
 refine gE hK5 ?_
 refine gw_cond H14 rfl (fun hb15 => ?_) (fun hb15 => ?_)
 skip
 ·
  cases hb15
 refine wp_skip ?_
 refine gw_nx (hK4 _ _ ?_)
 refine gR fun K16 hK16 => ?_
 refine V H14 (op_move rfl (H14.ev rfl)) ?_
 intro _ H18; clear H14
 refine gw_call H18 (want_none rfl) rfl (by decide) (op_callL Tryz.func10 (by kernel_rfl) rfl rfl (ar_cons (H18.ev rfl) ar_nil)) (Parse_walk a0 _) ?_
 rintro e23 w24 ⟨A19, c20, S21, rfl, hb25⟩
 refine ⟨_, rfl, fun _ H27 => ?_⟩
 have O28 := O11.fresh hb25
 clear H18 O11 hb25
 have O30 := O28.nrow_view 0 rfl
 clear O28
 have O31 : Own w w24 [Chunk.view k26 S21 A19 (((parseG a0).2.1).length) c20 ((parseG a0).2.1)] := O30
 clear O30
 refine V H27 (op_move rfl (H27.ev rfl)) ?_
 intro _ H33; clear H27
 refine V H33 (op_extract rfl (H33.ev rfl) rfl) ?_
 intro _ H35; clear H33
 refine V H35 (op_extract rfl (H35.ev rfl) rfl) ?_
 intro _ H37; clear H35
 refine V H37 (op_extract rfl (H37.ev rfl) rfl) ?_
 intro _ H39; clear H37
 refine gw_new H39 O31 (want_none rfl) rfl (by decide) (op_alloc gwzer26 rfl) ?_
 intro g40 _ w42 H43 O44; clear H39 O31
 have O45 : Own w w42 [Bk g40 [J 0, .slice none 0 0, .slice none 0 0] 26, Chunk.view k26 S21 A19 (((parseG a0).2.1).length) c20 ((parseG a0).2.1)] := O44
 clear O44
 refine gw_setn 0 H43 O45 rfl (want_none rfl) rfl (op_storen gwsiz26 rfl (H43.ev rfl) (H43.ev rfl) (O45.get 0 rfl) rfl (by simp) (by simp [Value.oneCell'])) ?_
 intro _ w48 H47 O49; clear H43 O45
 refine V H47 (op_assign rfl (H47.ev rfl)) ?_
 intro _ H51; clear H47
 refine V H51 (op_assign rfl (H51.ev rfl)) ?_
 intro _ H53; clear H51
 refine gE hK16 ?_
 refine gR fun K54 hK54 => ?_
 refine V H53 (op_move rfl (H53.ev rfl)) ?_
 intro _ H56; clear H53
 refine gw_call H56 (want_none rfl) rfl (by decide) (op_callL Tryz.func11 (by kernel_rfl) rfl rfl (ar_cons (H56.ev rfl) ar_nil)) (rParse_walk a0 _) ?_
 rintro e61 w62 ⟨A57, c58, S59, rfl, hb63⟩
 refine ⟨_, rfl, fun _ H65 => ?_⟩
 have O66 := O49.fresh hb63
 clear H56 O49 hb63
 have O68 := O66.nrow_view 0 rfl
 clear O66
 have O69 : Own w w62 [Chunk.view k26 S59 A57 (((parseG a0).2.1).length) c58 ((parseG a0).2.1), Bk g40 [J ((parseG a0).1), .slice none 0 0, .slice A19 (((parseG a0).2.1).length) c20] 26, Chunk.view k26 S21 A19 (((parseG a0).2.1).length) c20 ((parseG a0).2.1)] := O68
 clear O68
 refine V H65 (op_move rfl (H65.ev rfl)) ?_
 intro _ H71; clear H65
 refine V H71 (op_extract rfl (H71.ev rfl) rfl) ?_
 intro _ H73; clear H71
 refine V H73 (op_extract rfl (H73.ev rfl) rfl) ?_
 intro _ H75; clear H73
 refine V H75 (op_extract rfl (H75.ev rfl) rfl) ?_
 intro _ H77; clear H75
 refine gw_new H77 O69 (want_none rfl) rfl (by decide) (op_alloc gwzer26 rfl) ?_
 intro g78 _ w80 H81 O82; clear H77 O69
 have O83 : Own w w80 [Bk g78 [J 0, .slice none 0 0, .slice none 0 0] 26, Chunk.view k26 S59 A57 (((parseG a0).2.1).length) c58 ((parseG a0).2.1), Bk g40 [J ((parseG a0).1), .slice none 0 0, .slice A19 (((parseG a0).2.1).length) c20] 26, Chunk.view k26 S21 A19 (((parseG a0).2.1).length) c20 ((parseG a0).2.1)] := O82
 clear O82
 refine gw_setn 0 H81 O83 rfl (want_none rfl) rfl (op_storen gwsiz26 rfl (H81.ev rfl) (H81.ev rfl) (O83.get 0 rfl) rfl (by simp) (by simp [Value.oneCell'])) ?_
 intro _ w86 H85 O87; clear H81 O83
 refine V H85 (op_assign rfl (H85.ev rfl)) ?_
 intro _ H89; clear H85
 refine V H89 (op_assign rfl (H89.ev rfl)) ?_
 intro _ H91; clear H89
 refine gE hK54 ?_
 refine gR fun K92 hK92 => ?_
 refine V H91 (op_move rfl (H91.ev rfl)) ?_
 intro _ H94; clear H91
 refine V H94 (op_move rfl (H94.ev rfl)) ?_
 intro _ H96; clear H94
 refine V H96 (op_eqi rfl (H96.ev rfl) (H96.ev rfl)) ?_
 intro _ H98; clear H96
 have H99 := H98.lit (b := true) (by simp)
 clear H98
 refine V H99 (op_move rfl (H99.ev rfl)) ?_
 intro _ H101; clear H99
 refine V2 H101 (want_yes H101 rfl rfl rfl rfl) (op_move rfl (H101.ev rfl)) ?_
 intro _ H103; clear H101
 refine V2 H103 (want_yes H103 rfl rfl rfl rfl) (op_move rfl (H103.ev rfl)) ?_
 intro _ H105; clear H103
 refine V2 H105 (want_yes H105 rfl rfl rfl rfl) (op_eqi rfl (H105.ev rfl) (H105.ev rfl)) ?_
 intro _ H107; clear H105
 have H108 := H107.lit (b := true) (by simp)
 clear H107
 refine V H108 (op_pick_t rfl (H108.ev rfl) (H108.ev rfl)) ?_
 intro _ H110; clear H108
 refine V H110 (op_move rfl (H110.ev rfl)) ?_
 intro _ H112; clear H110
 refine V2 H112 (want_yes H112 rfl rfl rfl rfl) (op_loadn gwagg26 gwsiz26 rfl (H112.ev rfl) (O87.get 2 rfl) rfl rfl) ?_
 intro _ H114; clear H112
 refine V2 H114 (want_yes H114 rfl rfl rfl rfl) (op_loadn gwagg26 gwsiz26 rfl (H114.ev rfl) (O87.get 0 rfl) rfl rfl) ?_
 intro _ H116; clear H114
 refine gw_call H116 (want_yes H116 rfl rfl rfl rfl) rfl (by decide) (op_callL Tryz.func12 (by kernel_rfl) rfl rfl (ar_cons (H116.ev rfl) (ar_cons (H116.ev rfl) ar_nil))) (Same_true ((parseG a0).1) none A19 none A57 0 c20 0 c58 ([] : List S55) ((parseG a0).2.1) _ (parseG_small _ _) (Kd.C_nil _ _) (Nat.le_refl _) (view_C (O87.get 3 rfl)) (view_le (O87.get 3 rfl)) (Kd.C_nil _ _) (Nat.le_refl _) (view_C (O87.get 1 rfl)) (view_le (O87.get 1 rfl))) ?_
 rintro e117 w118 ⟨rfl, hb119⟩
 refine ⟨_, rfl, fun _ H121 => ?_⟩
 have O122 := O87.after hb119
 clear H116 O87 hb119
 refine V H121 (op_pick_t rfl (H121.ev rfl) (H121.ev rfl)) ?_
 intro _ H125; clear H121
 refine V H125 (op_assign rfl (H125.ev rfl)) ?_
 intro _ H127; clear H125
 refine gE hK92 ?_
 refine wp_ret ?_
 refine gw_ret1 H127 rfl rfl ?_
 exact ⟨rfl, O122.below⟩
end GGlobT_
export GGlobT_ (GlobParses_walk)
open Classical in
noncomputable def colloquylaw03_GlobParses.f (a0 : ByteArray) : Option Bool := if (True) then some true else none
theorem colloquylaw03_GlobParses.calls (a0 : ByteArray) (r : Bool) (w : World)  (h : colloquylaw03_GlobParses.f a0 = some r) :
    Calls Tryz.prog 3 #[(.string a0)] w fun e w' => e = .returned (.bool r) ∧ Below w.heap.size w w' := by
  unfold colloquylaw03_GlobParses.f at h
  split at h
  · cases h; rename_i hh; exact GlobParses_walk a0 w  hh
  · cases h
end Go.Proofs.YtelbgmpeghhakaaGreat.PA
end
section
namespace Go.Proofs.YtelbgmpeghhakaaGreat.PA
open Go.RowKit Go.Proofs.YtelbgmpeghhakaaGreatW.PrintWords Go.Proofs.YtelbgmpeghhakaaGreatW.PrintLast Go.Proofs.YtelbgmpeghhakaaGreatW.PrintMore
structure Opens {α : Type} (P : Program) (t : TypeId) (d : Kd α) (good : α → Prop) (wt : α → Nat) (sz : α → Prop) : Prop where
  run : ∀ {H : Type} (enc : TypeId × Value → H) (w : World) (spare : Nat → Bool) (held : Bool) (fuel : Nat) (cs : List Value) (x : DataW H × List MemPlace),
    DataW.trod enc P w 0 spare held fuel t cs = some x → ∃ y : α, d.K w y cs ∧ good y ∧ wt y ≤ Rows.uptoBulk x.1 ∧ ((∀ n ∈ x.1.weights P t, n ≤ reachBytes) → sz y)
structure OpensF {α : Type} (P : Program) (fs : List Field) (off : Nat) (d : Kd α) (good : α → Prop) (wt : α → Nat) (sz : α → Prop) : Prop where
  run : ∀ {H : Type} (enc : TypeId × Value → H) (w : World) (spare : Nat → Bool) (held : Bool) (fuel : Nat) (cs : List Value) (xs : List (DataW H × List MemPlace)),
    (fs.mapM fun f => DataW.trod enc P w 0 spare held fuel f.type ((cs.drop f.offset).take (P.cellsOf f.type))) = some xs →
      ∃ y : α, d.K w y ((cs.drop off).take d.sz) ∧ good y ∧ wt y ≤ Rows.uptoBulkAll (xs.map (·.1)) ∧ ((∀ n ∈ DataW.weightsEach P (fs.map (·.type)) (xs.map (·.1)), n ≤ reachBytes) → sz y)
end Go.Proofs.YtelbgmpeghhakaaGreat.PA
end
section
namespace Go.Proofs.YtelbgmpeghhakaaGreat.PA
open Go.RowKit Go.Proofs.YtelbgmpeghhakaaGreatW.PrintWords Go.Proofs.YtelbgmpeghhakaaGreatW.PrintLast Go.Proofs.YtelbgmpeghhakaaGreatW.PrintMore
set_option linter.unusedVariables false
def colloquylaw03_GlobParses.PureU : Prop := ∀ (x0 : ByteArray), (x0).size ≤ maxLen → x0.size ≤ 140737488351232 → ∃ _ : Nat, colloquylaw03_GlobParses.f (x0) = some true
end Go.Proofs.YtelbgmpeghhakaaGreat.PA
end
section
namespace Go.Proofs.YtelbgmpeghhakaaGreat.Pure
open Go.RowKit Go.Proofs.YtelbgmpeghhakaaGreat.PA
set_option linter.unusedVariables false in
theorem GlobParses : colloquylaw03_GlobParses.PureU := by
  intro x0 _ _
  exact ⟨0, if_pos trivial⟩
end Go.Proofs.YtelbgmpeghhakaaGreat.Pure
end
section
namespace Go.Proofs.YtelbgmpeghhakaaGreat.globParses
open Go.ChangeShapes Go.WideShapes Go.ChangeAt Go.RowKit
open Go.ChangeMaps (open_string shut_string)
open Go.RowKit Go.Proofs.YtelbgmpeghhakaaGreatW.PrintWords Go.Proofs.YtelbgmpeghhakaaGreatW.PrintLast Go.Proofs.YtelbgmpeghhakaaGreatW.PrintMore Go.Proofs.YtelbgmpeghhakaaGreat.PA
set_option linter.unusedVariables false
set_option linter.unusedSimpArgs false
theorem own : ownKnob Tryz.prog.godebug = none := by kernel_rfl
theorem laidOut : laidOutB Tryz.prog = true := by kernel_rfl
set_option maxRecDepth 100000 in
theorem contract (H : Type) (enc : TypeId × Value → H) (W : World) (base : Nat) (args : Array Value) (ds gs : List (DataW H)) (before : List MemPlace)
    (hval0 : ∀ (j : Nat) t v, Tryz.f3.params[j]? = some t → args[j]? = some v → Value.okWide Tryz.prog W .any base t v)
    (hW : DataW.Whole enc Tryz.prog Tryz.f3.params.toList Rows.globParsesSpec.vars false W args.toList ds gs before)
    (hsz0 : (DataW.weightsEach Tryz.prog (Tryz.f3.params.toList ++ Rows.globParsesSpec.plain.varTypes Tryz.prog) (ds ++ gs)).all (· ≤ reachBytes) = true) :
    Calls Tryz.prog 3 args W fun e W' => ∃ v, e = .returned v ∧ Rows.globParsesSpec.post enc Tryz.prog Tryz.f3 false true false false W args v W' := by
  have hsz : (DataW.weightsEach Tryz.prog (Tryz.f3.params.toList ++ Rows.globParsesSpec.plain.varTypes Tryz.prog) (ds ++ gs)).all (· ≤ reachBytes) = true := hsz0
  have hval : ∀ (j : Nat) t v, Tryz.f3.params[j]? = some t → args[j]? = some v → Value.okWide Tryz.prog W .any base t v := hval0
  have hW' := hW
  obtain ⟨p, q, hA0, hV, rfl, hfz, hnd⟩ := hW
  have hA : DataW.TrodAll enc Tryz.prog W 0 (fun _ => true) true Tryz.f3.params.toList args.toList ds p := hA0
  rw [Tryz.params3] at hA hval hsz
  obtain ⟨v0, vs0, d0, ds0, p0, q0, hargs, rfl, rfl, h0, r0⟩ := trodAll_cons hA
  obtain ⟨rfl, rfl, rfl⟩ := trodAll_nil r0
  obtain rfl : args = #[v0] := by cases args; simp_all
  obtain ⟨rfl, rfl⟩ := trodVars_none hV
  obtain ⟨x0, rfl, rfl, rfl, g0⟩ := open_string Tryz.underlying9 (hval 0 9 v0 rfl rfl) h0
  have z0 : x0.size ≤ 140737488351232 := by
    have z := sized_string hsz (j := 0) (t := 9) rfl rfl
    rw [Array.length_toList] at z
    exact z
  obtain ⟨k, h⟩ := Pure.GlobParses x0 g0 z0
  refine (PA.colloquylaw03_GlobParses.calls (a0 := x0) (r := true) (w := W) (h := h)).mono fun e W' ⟨he, hb⟩ => ?_
  have bel : Below W.heap.size W W' := by first | exact hb | exact Drawn0.below hb
  subst he
  exact ⟨_, rfl, _, _, _, [], _, [], hW', trodAll_mk1 (shut_bool Tryz.underlying4 _), (trodAll_cons_mk (shut_string Tryz.underlying9 g0) trodAll_mk0), rfl, bel.frame _, fun h => by cases h⟩
set_option maxRecDepth 100000 in
theorem lifted (os : Os) (started : os.Started) (H : Type) (enc : TypeId × Value → H) :
    ReturnsInHanded {} Tryz.checked os 3 .any (Rows.globParsesSpec.pre6 enc Tryz.prog Tryz.f3 Rows.globParsesRow.domain false) (Rows.globParsesSpec.post enc Tryz.prog Tryz.f3 false true false false) := by
  refine returnsInHanded_of_change_sized (C := Tryz.checked) own started (by kernel_rfl) Tryz.func3
    (ChangeSpec.witness6 (enc := enc) (C := Tryz.checked) false ⟨#[], #[.string ByteArray.empty], []⟩ 8 (by kernel_rfl) (by kernel_rfl) (by kernel_rfl) (by kernel_rfl)) ?_
  intro W base args ds gs before hval hW _ hsz _
  exact contract H enc W base args ds gs before hval hW hsz
theorem proved : Rows.GlobParsesSaid :=
  OpenClaim.holds_of_wide 3 Tryz.f3 rfl rfl rfl rfl rfl rfl rfl ⟨rfl, rfl, rfl, rfl, rfl⟩ rfl rfl rfl rfl rfl (by kernel_rfl) Tryz.func3 (by kernel_rfl)
    (of_decide_eq_true (by kernel_rfl)) (by unfold Func.isWrapper; first | (rw [if_pos (by decide +kernel)]; kernel_rfl) | (rw [if_neg (by decide +kernel)]; exact ⟨rfl, rfl⟩))
    (fun os started H enc _ => lifted os started H enc)
#print axioms proved
end Go.Proofs.YtelbgmpeghhakaaGreat.globParses
namespace Go.Proofs.YtelbgmpeghhakaaGreat
theorem globParses_holds : Rows.GlobParsesSaid := globParses.proved
end Go.Proofs.YtelbgmpeghhakaaGreat
end
