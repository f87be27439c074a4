/- The row of the law GlobMatches: for every input the call returns true and leaves its arguments as they were. Printed by a program of this session. -/
/- What this claim uses of this session's own texts, put together by a program: GRefP HMatches GGlobM HOpen StmtGlobMatches PureGlobMatches LawGlobMatches. -/
import Derived.Test.YtelbgmpeghhakaaGreatKGlobMatches3
import Derived.Test.YtelbgmpeghhakaaGreatProg
import Derived.Test.YtelbgmpeghhakaaGreatRows
section
namespace Go.Proofs.YtelbgmpeghhakaaGreat.PA
open Go.RowKit Go.Proofs.YtelbgmpeghhakaaGreatW.PrintWords Go.Proofs.YtelbgmpeghhakaaGreatW.PrintLast Go.Proofs.YtelbgmpeghhakaaGreatW.PrintMore
set_option linter.unusedVariables false
set_option linter.unusedSimpArgs false
namespace GRefP_
theorem gwagg26 : ∀ w, (isAgg 26).run Tryz.prog w = .ok true w := fun _ => by kernel_rfl
theorem gwinfo26 : (Tryz.prog.info? 26).map (fun i => (i.zero, i.size, i.bytes)) = some (some (.agg #[.int .i64 0, .slice none 0 0, .slice none 0 0]), 3, 56) := by kernel_rfl
theorem gwsiz26 : ∀ w, (sizeOf 26).run Tryz.prog w = .ok 3 w := fun _ => by kernel_rfl
theorem gwzer26 : ∀ w, (zeroValue 26).run Tryz.prog w = .ok (.agg #[.int .i64 0, .slice none 0 0, .slice none 0 0]) w := fun _ => by kernel_rfl
set_option maxHeartbeats 4000000 in
set_option maxRecDepth 100000 in
theorem rParse_walk (s : ByteArray) (w : World) :
    Calls Tryz.prog 11 #[.string s] w fun e w' => ∃ A c S, e = .returned (.tuple #[.agg #[.int .i64 (parseG s).1, .slice none 0 0, .slice A (parseG s).2.1.length c], .int .i64 (parseG s).2.2.1, .int .i64 (parseG s).2.2.2]) ∧ Out w w' (fun _ => False) [Chunk.nrow k26 26 w.heap.size S (.slice A (parseG s).2.1.length c) (parseG s).2.1] := by
 refine gw_start (N := 84) (vs := [.string s]) Tryz.func11 rfl rfl (by simp) fun a HF HO => ?_
 replace HO : Own w w [] := HO
 refine gR fun K1 hK1 => ?_
 refine gw_new HF HO (want_none rfl) rfl (by decide) (op_alloc gwzer26 rfl) ?_
 intro g2 _ w4 H5 O6; clear HF HO
 have O7 : Own w w4 [Bk g2 [J 0, .slice none 0 0, .slice none 0 0] 26] := O6
 clear O6
 refine V H5 (op_assign rfl (ev_c _ _)) ?_
 intro _ H9; clear H5
 refine V H9 (op_assign rfl (ev_c _ _)) ?_
 intro _ H11; clear H9
 refine gE hK1 ?_
 refine gw_seq fun K12 hK12 => ?_
 refine gR fun K13 hK13 => ?_
 refine V H11 (op_move rfl (H11.ev rfl)) ?_
 intro _ H15; clear H11
 refine V H15 (op_lens Tryz.underlying9 rfl (H15.ev rfl)) ?_
 intro _ H17; clear H15
 refine V H17 (op_gtr rfl (H17.ev rfl) (ev_c _ _)) ?_
 intro _ H19; clear H17
 refine gE hK13 ?_
 refine gw_cond H19 rfl (fun hb20 => ?_) (fun hb20 => ?_)
 ·
  have H21 := H19.subst_ (d := 16) (b := true) rfl hb20
  clear H19
  (try simp only [decide_eq_true_eq] at hb20)
  refine gR fun K22 hK22 => ?_
  refine V H21 (op_build (cells := #[J 0, .slice none 0 0, .slice none 0 0]) rfl pt_nil (by kernel_rfl)) ?_
  intro _ H24; clear H21
  refine gw_setn 0 H24 O7 rfl (want_none rfl) rfl (op_storen gwsiz26 rfl (H24.ev rfl) (H24.ev rfl) (O7.get 0 rfl) rfl (by simp) (by simp [Value.oneCell'])) ?_
  intro _ w27 H26 O28; clear H24 O7
  refine V H26 (op_assign rfl (ev_c _ _)) ?_
  intro _ H30; clear H26
  refine V H30 (op_assign rfl (ev_c _ _)) ?_
  intro _ H32; clear H30
  refine gE hK22 ?_
  refine wp_ret ?_
  refine gw_thr ?_
  refine gw_rets3 H32 rfl (rv_celln H32 rfl gwagg26 gwsiz26 (O28.get 0 rfl) rfl) (rv_tmp H32 rfl) (rv_tmp H32 rfl) ?_
  rw [show parseG s = (0, [], 2, 0) from parseG_long (by assumption)]
  exact ⟨none, 0, _, rfl, ((O28.nrow_nil k26 26 w.heap.size).sel [0] (by decide)).out⟩
 ·
  have H33 := H19.subst_ (d := 16) (b := false) rfl hb20
  clear H19
  (try simp only [decide_eq_false_iff_not, Int.not_lt] at hb20)
  have hlong : ¬ 256 < (s.size : Int) := by omega
  have hs : s.size ≤ 256 := by omega
  obtain ⟨RES, hRES⟩ : ∃ R_ : ParRes, R_ = parseS (s.size + 1) (bytesOf s) [] := ⟨_, rfl⟩
  refine wp_skip ?_
  refine gw_nx (hK12 _ _ ?_)
  refine gR fun K34 hK34 => ?_
  refine gw_rlit0 k26 (e := 26) H33 O7 (want_none rfl) rfl (by decide) (op_bslice (by kernel_rfl) rfl pt_nil) ?_
  intro A35 S36 _ w38 H39 O40; clear H33 O7
  have O41 : Own w w38 [Chunk.row k26 26 w.heap.size S36 (.slice A35 (([] : List S26).length) 0) ([] : List S26), Bk g2 [J 0, .slice none 0 0, .slice none 0 0] 26] := O40
  clear O40
  have O42 := O41.row_nrow 0 rfl
  clear O41
  have O43 : Own w w38 [Chunk.nrow k26 26 w.heap.size S36 (.slice A35 (([] : List S26).length) 0) ([] : List S26), Bk g2 [J 0, .slice none 0 0, .slice none 0 0] 26] := O42
  clear O42
  refine V H39 (op_assign rfl (H39.ev rfl)) ?_
  intro _ H45; clear H39
  refine gE hK34 ?_
  refine gw_seq fun K46 hK46 => ?_
  refine gR fun K47 hK47 => ?_
  refine V H45 (op_assign rfl (ev_c _ _)) ?_
  intro _ H49; clear H45
  refine gE hK47 ?_
  refine wp_block ?_
  refine gw_loop (fun m_ a_ w_ => ∃ (p : Int) (kids : List S26) (Aa : Option Addr) (ca : Nat) (Sa : Nat → Prop), Fr 84 a_ [(6, J p), (5, .slice Aa kids.length ca), (0, .string s), (2, .pointer (some ⟨g2, 0, none⟩))] ∧ Own w w_ [Chunk.nrow k26 26 w.heap.size Sa (.slice Aa kids.length ca) kids, Bk g2 [J 0, .slice none 0 0, .slice none 0 0] 26] ∧ (0 ≤ p ∧ p ≤ s.size) ∧ ((kids.length : Int) ≤ p) ∧ (parK s RES p kids) ∧ m_ = (s.size - p.toNat)) ((s.size - (0 : Int).toNat)) ?_ ?_
  ·
   refine ⟨0, ([] : List S26), A35, _, _, (H49.pick (t := 6) rfl (H49.pick (t := 5) rfl (H49.pick (t := 0) rfl (H49.pick (t := 2) rfl H49.nil)))), O43.sel [0, 1] (by decide), ?_, ?_, ?_, rfl⟩
   ·
    omega
   ·
    show (0 : Int) ≤ 0; omega
   ·
    exact ⟨s.size + 1, by unfold rest_; rw [List.length_drop, bytesOf_length]; omega, hRES.symm⟩
  ·
   rintro m51 _ w53 ⟨p, kids, Aa, ca, Sa, H54, O55, hp, hkl, hD, hm56⟩
   rcases parK_in hp hD with ⟨hpe, hR⟩ | ⟨hpl, hb1, hR⟩ | ⟨x, q, r, k, hpl, hb1, hk, hR⟩; rotate_left 2; rcases byte_kind hp.1 hb1 with ⟨h92, hqt⟩ | ⟨hbx, hx92, hqf, hpn, hpr⟩; rotate_left 2
   ·
    refine gw_seq fun K57 hK57 => ?_
    refine gR fun K58 hK58 => ?_
    refine V H54 (op_move rfl (H54.ev rfl)) ?_
    intro _ H60; clear H54
    refine V H60 (op_move rfl (H60.ev rfl)) ?_
    intro _ H62; clear H60
    refine V H62 (op_lens Tryz.underlying9 rfl (H62.ev rfl)) ?_
    intro _ H64; clear H62
    refine V H64 (op_lss rfl (H64.ev rfl) (H64.ev rfl)) ?_
    intro _ H66; clear H64
    have H67 := H66.lit (b := false) (by rw [hpe]; simp)
    clear H66
    refine gE hK58 ?_
    refine gw_cond H67 rfl (fun hb68 => ?_) (fun hb68 => ?_)
    skip
    ·
     cases hb68
    refine wp_exit ?_
    refine gw_thx ?_
    refine gw_thx ?_
    refine gw_in ?_
    refine gw_nx (hK46 _ _ ?_)
    refine gR fun K69 hK69 => ?_
    refine V H67 (op_move rfl (H67.ev rfl)) ?_
    intro _ H71; clear H67
    refine V H71 (op_build (cells := #[J 2, .slice none 0 0, .slice Aa kids.length ca]) rfl (pt_cons (ev_c _ _) (pt_cons (H71.ev rfl) pt_nil)) (by kernel_rfl)) ?_
    intro _ H73; clear H71
    refine gw_setn 1 H73 O55 rfl (want_none rfl) rfl (op_storen gwsiz26 rfl (H73.ev rfl) (H73.ev rfl) (O55.get 1 rfl) rfl (by simp) (by simp [Value.oneCell'])) ?_
    intro _ w76 H75 O77; clear H73 O55
    refine V H75 (op_assign rfl (ev_c _ _)) ?_
    intro _ H79; clear H75
    refine V H79 (op_assign rfl (ev_c _ _)) ?_
    intro _ H81; clear H79
    refine gE hK69 ?_
    refine wp_ret ?_
    refine gw_rets3 H81 rfl (rv_celln H81 rfl gwagg26 gwsiz26 (O77.get 1 rfl) rfl) (rv_tmp H81 rfl) (rv_tmp H81 rfl) ?_
    rw [show parseG s = (2, kids, 0, 0) from parseG_ok hlong (hR.symm.trans hRES)]
    exact ⟨_, _, _, rfl, (O77.sel [0] (by decide)).out⟩
   ·
    have h92 := none_92 (by omega) hb1
    refine gw_seq fun K82 hK82 => ?_
    refine gR fun K83 hK83 => ?_
    refine V H54 (op_move rfl (H54.ev rfl)) ?_
    intro _ H85; clear H54
    refine V H85 (op_move rfl (H85.ev rfl)) ?_
    intro _ H87; clear H85
    refine V H87 (op_lens Tryz.underlying9 rfl (H87.ev rfl)) ?_
    intro _ H89; clear H87
    refine V H89 (op_lss rfl (H89.ev rfl) (H89.ev rfl)) ?_
    intro _ H91; clear H89
    have H92 := H91.lit (b := true) (by rw [decide_eq_true_eq]; exact hpl)
    clear H91
    refine gE hK83 ?_
    refine gw_cond H92 rfl (fun hb93 => ?_) (fun hb93 => ?_)
    rotate_left
    ·
     cases hb93
    refine wp_skip ?_
    refine gw_nx (hK82 _ _ ?_)
    refine wp_block ?_
    refine gR fun K94 hK94 => ?_
    refine V H92 (op_move rfl (H92.ev rfl)) ?_
    intro _ H96; clear H92
    refine V H96 (op_move rfl (H96.ev rfl)) ?_
    intro _ H98; clear H96
    refine V H98 (op_sidx Tryz.underlying9 rfl (H98.ev rfl) (H98.ev rfl) ⟨by omega, by omega⟩) ?_
    intro _ H100; clear H98
    refine gE hK94 ?_
    refine wp_block ?_
    refine gR fun K101 hK101 => ?_
    refine V H100 (op_eqi rfl (H100.ev rfl) (ev_c _ _)) ?_
    intro _ H103; clear H100
    have H104 := H103.lit (b := false) (by rw [h92]; rfl)
    clear H103
    refine V H104 (op_assign rfl (H104.ev rfl)) ?_
    intro _ H106; clear H104
    refine gE hK101 ?_
    refine gw_cond H106 rfl (fun hb107 => ?_) (fun hb107 => ?_)
    skip
    ·
     cases hb107
    refine gR fun K108 hK108 => ?_
    refine V H106 (op_eqi rfl (H106.ev rfl) (ev_c _ _)) ?_
    intro _ H110; clear H106
    have H111 := H110.lit (b := false) (by rw [h92]; rfl)
    clear H110
    refine V H111 (op_assign rfl (H111.ev rfl)) ?_
    intro _ H113; clear H111
    refine gE hK108 ?_
    refine gw_cond H113 rfl (fun hb114 => ?_) (fun hb114 => ?_)
    skip
    ·
     cases hb114
    refine gR fun K115 hK115 => ?_
    refine V H113 (op_eqi rfl (H113.ev rfl) (ev_c _ _)) ?_
    intro _ H117; clear H113
    have H118 := H117.lit (b := false) (by rw [h92]; rfl)
    clear H117
    refine V H118 (op_assign rfl (H118.ev rfl)) ?_
    intro _ H120; clear H118
    refine gE hK115 ?_
    refine gw_cond H120 rfl (fun hb121 => ?_) (fun hb121 => ?_)
    skip
    ·
     cases hb121
    refine gR fun K122 hK122 => ?_
    refine V H120 (op_move rfl (H120.ev rfl)) ?_
    intro _ H124; clear H120
    refine V H124 (op_move rfl (H124.ev rfl)) ?_
    intro _ H126; clear H124
    refine gw_call H126 (want_none rfl) rfl (by decide) (op_callL Tryz.func23 (by kernel_rfl) rfl rfl (ar_cons (H126.ev rfl) (ar_cons (H126.ev rfl) ar_nil))) (item_is s p _ (by omega) hs 0 0 false (item_none hb1)) ?_
    rintro e127 w128 ⟨rfl, hb129⟩
    refine ⟨_, rfl, fun _ H131 => ?_⟩
    have O132 := O55.after hb129
    clear H126 O55 hb129
    refine V H131 (op_move rfl (H131.ev rfl)) ?_
    intro _ H135; clear H131
    refine V H135 (op_extract rfl (H135.ev rfl) rfl) ?_
    intro _ H137; clear H135
    refine V H137 (op_extract rfl (H137.ev rfl) rfl) ?_
    intro _ H139; clear H137
    refine V H139 (op_extract rfl (H139.ev rfl) rfl) ?_
    intro _ H141; clear H139
    refine V H141 (op_assign rfl (H141.ev rfl)) ?_
    intro _ H143; clear H141
    refine V H143 (op_assign rfl (H143.ev rfl)) ?_
    intro _ H145; clear H143
    refine V H145 (op_assign rfl (H145.ev rfl)) ?_
    intro _ H147; clear H145
    refine gE hK122 ?_
    refine gw_seq fun K148 hK148 => ?_
    refine gR fun K149 hK149 => ?_
    refine V H147 (op_move rfl (H147.ev rfl)) ?_
    intro _ H151; clear H147
    refine V H151 (op_not rfl (H151.ev rfl)) ?_
    intro _ H153; clear H151
    refine gE hK149 ?_
    refine gw_cond H153 rfl (fun hb154 => ?_) (fun hb154 => ?_)
    rotate_left
    ·
     cases hb154
    refine gR fun K155 hK155 => ?_
    refine V H153 (op_build (cells := #[J 0, .slice none 0 0, .slice none 0 0]) rfl pt_nil (by kernel_rfl)) ?_
    intro _ H157; clear H153
    refine V H157 (op_move rfl (H157.ev rfl)) ?_
    intro _ H159; clear H157
    refine V H159 (op_lens Tryz.underlying9 rfl (H159.ev rfl)) ?_
    intro _ H161; clear H159
    refine gw_setn 1 H161 O132 rfl (want_none rfl) rfl (op_storen gwsiz26 rfl (H161.ev rfl) (H161.ev rfl) (O132.get 1 rfl) rfl (by simp) (by simp [Value.oneCell'])) ?_
    intro _ w164 H163 O165; clear H161 O132
    refine V H163 (op_assign rfl (ev_c _ _)) ?_
    intro _ H167; clear H163
    refine V H167 (op_assign rfl (H167.ev rfl)) ?_
    intro _ H169; clear H167
    refine gE hK155 ?_
    refine wp_ret ?_
    refine gw_thr ?_
    refine gw_blr ?_
    refine gw_blr ?_
    refine gw_thr ?_
    refine gw_blr ?_
    refine gw_thr ?_
    refine gw_rets3 H169 rfl (rv_celln H169 rfl gwagg26 gwsiz26 (O165.get 1 rfl) rfl) (rv_tmp H169 rfl) (rv_tmp H169 rfl) ?_
    rw [show parseG s = (0, [], 31, (s.size : Int)) from (parseG_bad (m := 0) hlong (hR.symm.trans hRES)).trans (by simp)]
    exact ⟨none, 0, _, rfl, ((O165.nrow_nil k26 26 w.heap.size).sel [0] (by decide)).out⟩
   ·
    unfold parB at hR
    rw [if_pos hqt] at hR
    obtain ⟨hrr, hp1, hp2⟩ := item_rest hp hs hb1
    refine gw_seq fun K170 hK170 => ?_
    refine gR fun K171 hK171 => ?_
    refine V H54 (op_move rfl (H54.ev rfl)) ?_
    intro _ H173; clear H54
    refine V H173 (op_move rfl (H173.ev rfl)) ?_
    intro _ H175; clear H173
    refine V H175 (op_lens Tryz.underlying9 rfl (H175.ev rfl)) ?_
    intro _ H177; clear H175
    refine V H177 (op_lss rfl (H177.ev rfl) (H177.ev rfl)) ?_
    intro _ H179; clear H177
    have H180 := H179.lit (b := true) (by rw [decide_eq_true_eq]; exact hpl)
    clear H179
    refine gE hK171 ?_
    refine gw_cond H180 rfl (fun hb181 => ?_) (fun hb181 => ?_)
    rotate_left
    ·
     cases hb181
    refine wp_skip ?_
    refine gw_nx (hK170 _ _ ?_)
    refine wp_block ?_
    refine gR fun K182 hK182 => ?_
    refine V H180 (op_move rfl (H180.ev rfl)) ?_
    intro _ H184; clear H180
    refine V H184 (op_move rfl (H184.ev rfl)) ?_
    intro _ H186; clear H184
    refine V H186 (op_sidx Tryz.underlying9 rfl (H186.ev rfl) (H186.ev rfl) ⟨by omega, by omega⟩) ?_
    intro _ H188; clear H186
    refine gE hK182 ?_
    refine wp_block ?_
    refine gR fun K189 hK189 => ?_
    refine V H188 (op_eqi rfl (H188.ev rfl) (ev_c _ _)) ?_
    intro _ H191; clear H188
    have H192 := H191.lit (b := false) (by rw [h92]; rfl)
    clear H191
    refine V H192 (op_assign rfl (H192.ev rfl)) ?_
    intro _ H194; clear H192
    refine gE hK189 ?_
    refine gw_cond H194 rfl (fun hb195 => ?_) (fun hb195 => ?_)
    skip
    ·
     cases hb195
    refine gR fun K196 hK196 => ?_
    refine V H194 (op_eqi rfl (H194.ev rfl) (ev_c _ _)) ?_
    intro _ H198; clear H194
    have H199 := H198.lit (b := false) (by rw [h92]; rfl)
    clear H198
    refine V H199 (op_assign rfl (H199.ev rfl)) ?_
    intro _ H201; clear H199
    refine gE hK196 ?_
    refine gw_cond H201 rfl (fun hb202 => ?_) (fun hb202 => ?_)
    skip
    ·
     cases hb202
    refine gR fun K203 hK203 => ?_
    refine V H201 (op_eqi rfl (H201.ev rfl) (ev_c _ _)) ?_
    intro _ H205; clear H201
    have H206 := H205.lit (b := false) (by rw [h92]; rfl)
    clear H205
    refine V H206 (op_assign rfl (H206.ev rfl)) ?_
    intro _ H208; clear H206
    refine gE hK203 ?_
    refine gw_cond H208 rfl (fun hb209 => ?_) (fun hb209 => ?_)
    skip
    ·
     cases hb209
    refine gR fun K210 hK210 => ?_
    refine V H208 (op_move rfl (H208.ev rfl)) ?_
    intro _ H212; clear H208
    refine V H212 (op_move rfl (H212.ev rfl)) ?_
    intro _ H214; clear H212
    refine gw_call H214 (want_none rfl) rfl (by decide) (op_callL Tryz.func23 (by kernel_rfl) rfl rfl (ar_cons (H214.ev rfl) (ar_cons (H214.ev rfl) ar_nil))) (item_is s p _ (by omega) hs x ((s.size : Int) - r.length) true (item_ok hb1)) ?_
    rintro e215 w216 ⟨rfl, hb217⟩
    refine ⟨_, rfl, fun _ H219 => ?_⟩
    have O220 := O55.after hb217
    clear H214 O55 hb217
    refine V H219 (op_move rfl (H219.ev rfl)) ?_
    intro _ H223; clear H219
    refine V H223 (op_extract rfl (H223.ev rfl) rfl) ?_
    intro _ H225; clear H223
    refine V H225 (op_extract rfl (H225.ev rfl) rfl) ?_
    intro _ H227; clear H225
    refine V H227 (op_extract rfl (H227.ev rfl) rfl) ?_
    intro _ H229; clear H227
    refine V H229 (op_assign rfl (H229.ev rfl)) ?_
    intro _ H231; clear H229
    refine V H231 (op_assign rfl (H231.ev rfl)) ?_
    intro _ H233; clear H231
    refine V H233 (op_assign rfl (H233.ev rfl)) ?_
    intro _ H235; clear H233
    refine gE hK210 ?_
    refine gw_seq fun K236 hK236 => ?_
    refine gR fun K237 hK237 => ?_
    refine V H235 (op_move rfl (H235.ev rfl)) ?_
    intro _ H239; clear H235
    refine V H239 (op_not rfl (H239.ev rfl)) ?_
    intro _ H241; clear H239
    refine gE hK237 ?_
    refine gw_cond H241 rfl (fun hb242 => ?_) (fun hb242 => ?_)
    skip
    ·
     cases hb242
    refine wp_skip ?_
    refine gw_nx (hK236 _ _ ?_)
    refine gR fun K243 hK243 => ?_
    refine V H241 (op_move rfl (H241.ev rfl)) ?_
    intro _ H245; clear H241
    refine V H245 (op_move rfl (H245.ev rfl)) ?_
    intro _ H247; clear H245
    refine gw_call H247 (want_none rfl) rfl (by decide) (op_callL Tryz.func24 (by kernel_rfl) rfl rfl (ar_cons (H247.ev rfl) ar_nil)) (rone_walk x _) ?_
    rintro e252 w253 ⟨A248, c249, S250, rfl, hb254⟩
    refine ⟨_, rfl, fun _ H256 => ?_⟩
    have O257 := O220.fresh hb254
    clear H247 O220 hb254
    refine gw_news (O := .cells #[J 1, .slice A248 (([(⟨x, x⟩ : S55)]).length) c249, .slice none 0 0] 26 (0, 0)) (n := 1) H256 O257 (want_none rfl) rfl (by decide) (op_bslice (by kernel_rfl) rfl (pt_cons (H256.ev rfl) pt_nil)) ?_
    intro g259 _ w261 H262 O263; clear H256 O257
    have O264 : Own w w261 [Bk g259 [J 1, .slice A248 (([(⟨x, x⟩ : S55)]).length) c249, .slice none 0 0] 26, Chunk.view k55 S250 A248 (([(⟨x, x⟩ : S55)]).length) c249 ([(⟨x, x⟩ : S55)]), Chunk.nrow k26 26 w.heap.size Sa (.slice Aa kids.length ca) kids, Bk g2 [J 0, .slice none 0 0, .slice none 0 0] 26] := O263
    clear O263
    have O265 : Own w w261 [Chunk.view k26 (fun k_ => k_ = g259 ∨ S250 k_) (some ⟨g259, 0, none⟩) (([(⟨1, ([(⟨x, x⟩ : S55)]), []⟩ : S26)]).length) (([(⟨1, ([(⟨x, x⟩ : S55)]), []⟩ : S26)]).length) ([(⟨1, ([(⟨x, x⟩ : S55)]), []⟩ : S26)]), Chunk.nrow k26 26 w.heap.size Sa (.slice Aa kids.length ca) kids, Bk g2 [J 0, .slice none 0 0, .slice none 0 0] 26] := Own.lit_view (cs := [J 1, .slice A248 (([(⟨x, x⟩ : S55)]).length) c249, .slice none 0 0]) (O264.sel [0, 1, 2, 3] (by decide)) k26 [(⟨1, ([(⟨x, x⟩ : S55)]), []⟩ : S26)] (fun w_ h_ => reps_more (k26_mkF _ _ (⟨1, ([(⟨x, x⟩ : S55)]), []⟩ : S26) h_.2.1 h_.1 (Nat.le_refl _) (Kd.F_nil _ _ _)) rfl reps_none) (by simp [maxLen])
    clear O264
    have O267 : Own w w261 [Chunk.nrow k26 26 w.heap.size Sa (.slice Aa kids.length ca) kids, Chunk.view k26 (fun k_ => k_ = g259 ∨ S250 k_) (some ⟨g259, 0, none⟩) (([(⟨1, ([(⟨x, x⟩ : S55)]), []⟩ : S26)]).length) (([(⟨1, ([(⟨x, x⟩ : S55)]), []⟩ : S26)]).length) ([(⟨1, ([(⟨x, x⟩ : S55)]), []⟩ : S26)]), Bk g2 [J 0, .slice none 0 0, .slice none 0 0] 26] := O265.sel [1, 0, 2] (by decide)
    refine gw_nappend k26 (ys := [(⟨1, ([(⟨x, x⟩ : S55)]), []⟩ : S26)]) H262 O267 (want_none rfl) rfl (by decide) rfl Tryz.underlying24 gwinfo26 rfl (by decide) (by decide) (H262.ev rfl) (H262.ev rfl) (fun w_ h_ => h_.1) O267.below.size (by omega) ?_
    intro A268 c269 S270 _ w272 H273 O274; clear H262 O265 O267
    have O275 : Own w w272 [Chunk.nrow k26 26 w.heap.size S270 (.slice A268 ((kids ++ [(⟨1, ([(⟨x, x⟩ : S55)]), []⟩ : S26)]).length) c269) (kids ++ [(⟨1, ([(⟨x, x⟩ : S55)]), []⟩ : S26)]), Bk g2 [J 0, .slice none 0 0, .slice none 0 0] 26] := O274
    clear O274
    refine V H273 (op_assign rfl (H273.ev rfl)) ?_
    intro _ H277; clear H273
    refine gE hK243 ?_
    refine wp_region_lit ?_
    refine V H277 (op_move rfl (H277.ev rfl)) ?_
    intro _ H279; clear H277
    refine V H279 (op_assign rfl (H279.ev rfl)) ?_
    intro _ H281; clear H279
    refine wpList_nil ?_
    refine gw_blk ?_
    refine gw_blk ?_
    refine gw_nx ⟨_, ?_, ((s.size : Int) - r.length), (kids ++ [(⟨1, ([(⟨x, x⟩ : S55)]), []⟩ : S26)]), A268, _, _, (H281.pick (t := 6) rfl (H281.pick (t := 5) rfl (H281.pick (t := 0) rfl (H281.pick (t := 2) rfl H281.nil)))), O275.sel [0, 1] (by decide), ?_, ?_, ?_, rfl⟩
    ·
     rw [hm56]; omega
    ·
     omega
    ·
     rw [List.length_append, List.length_singleton]; omega
    ·
     exact ⟨k, by rw [hrr]; exact hk, by rw [hrr]; exact hR.symm⟩
   ·
    unfold parB at hR
    rw [if_neg (by rw [hqf]; simp)] at hR
    obtain ⟨hrr, hp1, hp2⟩ := item_rest hp hs hb1
    refine gw_seq fun K282 hK282 => ?_
    refine gR fun K283 hK283 => ?_
    refine V H54 (op_move rfl (H54.ev rfl)) ?_
    intro _ H285; clear H54
    refine V H285 (op_move rfl (H285.ev rfl)) ?_
    intro _ H287; clear H285
    refine V H287 (op_lens Tryz.underlying9 rfl (H287.ev rfl)) ?_
    intro _ H289; clear H287
    refine V H289 (op_lss rfl (H289.ev rfl) (H289.ev rfl)) ?_
    intro _ H291; clear H289
    have H292 := H291.lit (b := true) (by rw [decide_eq_true_eq]; exact hpl)
    clear H291
    refine gE hK283 ?_
    refine gw_cond H292 rfl (fun hb293 => ?_) (fun hb293 => ?_)
    rotate_left
    ·
     cases hb293
    refine wp_skip ?_
    refine gw_nx (hK282 _ _ ?_)
    refine wp_block ?_
    refine gR fun K294 hK294 => ?_
    refine V H292 (op_move rfl (H292.ev rfl)) ?_
    intro _ H296; clear H292
    refine V H296 (op_move rfl (H296.ev rfl)) ?_
    intro _ H298; clear H296
    refine V H298 (op_sidx Tryz.underlying9 rfl (H298.ev rfl) (H298.ev rfl) ⟨by omega, by omega⟩) ?_
    intro _ H300; clear H298
    refine gE hK294 ?_
    refine wp_block ?_
    refine gR fun K301 hK301 => ?_
    refine V H300 (op_eqi rfl (H300.ev rfl) (ev_c _ _)) ?_
    intro _ H303; clear H300
    refine V H303 (op_assign rfl (H303.ev rfl)) ?_
    intro _ H305; clear H303
    refine gE hK301 ?_
    refine gw_cond H305 rfl (fun hb306 => ?_) (fun hb306 => ?_)
    ·
     have H307 := H305.subst_ (d := 44) (b := true) rfl hb306
     clear H305
     (try simp only [decide_eq_true_eq] at hb306)
     rw [if_pos (hbx ▸ hb306)] at hR
     refine gR fun K308 hK308 => ?_
     refine V H307 (op_move rfl (H307.ev rfl)) ?_
     intro _ H310; clear H307
     refine gw_call H310 (want_none rfl) rfl (by decide) (op_callL Tryz.func21 (by kernel_rfl) rfl rfl ar_nil) (rall_walk _) ?_
     rintro e315 w316 ⟨A311, c312, S313, rfl, hb317⟩
     refine ⟨_, rfl, fun _ H319 => ?_⟩
     have O320 := O55.fresh hb317
     clear H310 O55 hb317
     refine gw_news (O := .cells #[J 1, .slice A311 (([(⟨0, 255⟩ : S55)]).length) c312, .slice none 0 0] 26 (0, 0)) (n := 1) H319 O320 (want_none rfl) rfl (by decide) (op_bslice (by kernel_rfl) rfl (pt_cons (H319.ev rfl) pt_nil)) ?_
     intro g322 _ w324 H325 O326; clear H319 O320
     have O327 : Own w w324 [Bk g322 [J 1, .slice A311 (([(⟨0, 255⟩ : S55)]).length) c312, .slice none 0 0] 26, Chunk.view k55 S313 A311 (([(⟨0, 255⟩ : S55)]).length) c312 ([(⟨0, 255⟩ : S55)]), Chunk.nrow k26 26 w.heap.size Sa (.slice Aa kids.length ca) kids, Bk g2 [J 0, .slice none 0 0, .slice none 0 0] 26] := O326
     clear O326
     have O328 : Own w w324 [Chunk.view k26 (fun k_ => k_ = g322 ∨ S313 k_) (some ⟨g322, 0, none⟩) (([(⟨1, ([(⟨0, 255⟩ : S55)]), []⟩ : S26)]).length) (([(⟨1, ([(⟨0, 255⟩ : S55)]), []⟩ : S26)]).length) ([(⟨1, ([(⟨0, 255⟩ : S55)]), []⟩ : S26)]), Chunk.nrow k26 26 w.heap.size Sa (.slice Aa kids.length ca) kids, Bk g2 [J 0, .slice none 0 0, .slice none 0 0] 26] := Own.lit_view (cs := [J 1, .slice A311 (([(⟨0, 255⟩ : S55)]).length) c312, .slice none 0 0]) (O327.sel [0, 1, 2, 3] (by decide)) k26 [(⟨1, ([(⟨0, 255⟩ : S55)]), []⟩ : S26)] (fun w_ h_ => reps_more (k26_mkF _ _ (⟨1, ([(⟨0, 255⟩ : S55)]), []⟩ : S26) h_.2.1 h_.1 (Nat.le_refl _) (Kd.F_nil _ _ _)) rfl reps_none) (by simp [maxLen])
     clear O327
     have O330 : Own w w324 [Chunk.nrow k26 26 w.heap.size Sa (.slice Aa kids.length ca) kids, Chunk.view k26 (fun k_ => k_ = g322 ∨ S313 k_) (some ⟨g322, 0, none⟩) (([(⟨1, ([(⟨0, 255⟩ : S55)]), []⟩ : S26)]).length) (([(⟨1, ([(⟨0, 255⟩ : S55)]), []⟩ : S26)]).length) ([(⟨1, ([(⟨0, 255⟩ : S55)]), []⟩ : S26)]), Bk g2 [J 0, .slice none 0 0, .slice none 0 0] 26] := O328.sel [1, 0, 2] (by decide)
     refine gw_nappend k26 (ys := [(⟨1, ([(⟨0, 255⟩ : S55)]), []⟩ : S26)]) H325 O330 (want_none rfl) rfl (by decide) rfl Tryz.underlying24 gwinfo26 rfl (by decide) (by decide) (H325.ev rfl) (H325.ev rfl) (fun w_ h_ => h_.1) O330.below.size (by omega) ?_
     intro A331 c332 S333 _ w335 H336 O337; clear H325 O328 O330
     have O338 : Own w w335 [Chunk.nrow k26 26 w.heap.size S333 (.slice A331 ((kids ++ [(⟨1, ([(⟨0, 255⟩ : S55)]), []⟩ : S26)]).length) c332) (kids ++ [(⟨1, ([(⟨0, 255⟩ : S55)]), []⟩ : S26)]), Bk g2 [J 0, .slice none 0 0, .slice none 0 0] 26] := O337
     clear O337
     refine V H336 (op_assign rfl (H336.ev rfl)) ?_
     intro _ H340; clear H336
     refine gE hK308 ?_
     refine wp_region_lit ?_
     refine V H340 (op_move rfl (H340.ev rfl)) ?_
     intro _ H342; clear H340
     refine V H342 (op_add rfl (H342.ev rfl) (ev_c _ _) (by omega)) ?_
     intro _ H344; clear H342
     refine V H344 (op_assign rfl (H344.ev rfl)) ?_
     intro _ H346; clear H344
     refine wpList_nil ?_
     refine gw_blk ?_
     refine gw_blk ?_
     refine gw_nx ⟨_, ?_, p + 1, (kids ++ [(⟨1, ([(⟨0, 255⟩ : S55)]), []⟩ : S26)]), A331, _, _, (H346.pick (t := 6) rfl (H346.pick (t := 5) rfl (H346.pick (t := 0) rfl (H346.pick (t := 2) rfl H346.nil)))), O338.sel [0, 1] (by decide), ?_, ?_, ?_, rfl⟩
     ·
      rw [hm56]; omega
     ·
      omega
     ·
      rw [List.length_append, List.length_singleton]; omega
     ·
      exact ⟨k, by rw [hpr]; exact hk, by rw [hpr]; exact hR.symm⟩
    ·
     have H347 := H305.subst_ (d := 44) (b := false) rfl hb306
     clear H305
     (try simp only [decide_eq_false_iff_not] at hb306)
     rw [if_neg (fun h_ => hb306 (hbx.trans h_))] at hR
     refine gR fun K348 hK348 => ?_
     refine V H347 (op_eqi rfl (H347.ev rfl) (ev_c _ _)) ?_
     intro _ H350; clear H347
     refine V H350 (op_assign rfl (H350.ev rfl)) ?_
     intro _ H352; clear H350
     refine gE hK348 ?_
     refine gw_cond H352 rfl (fun hb353 => ?_) (fun hb353 => ?_)
     ·
      have H354 := H352.subst_ (d := 52) (b := true) rfl hb353
      clear H352
      (try simp only [decide_eq_true_eq] at hb353)
      rw [if_pos (hbx ▸ hb353)] at hR
      refine gR fun K355 hK355 => ?_
      refine V H354 (op_move rfl (H354.ev rfl)) ?_
      intro _ H357; clear H354
      refine gw_call H357 (want_none rfl) rfl (by decide) (op_callL Tryz.func21 (by kernel_rfl) rfl rfl ar_nil) (rall_walk _) ?_
      rintro e362 w363 ⟨A358, c359, S360, rfl, hb364⟩
      refine ⟨_, rfl, fun _ H366 => ?_⟩
      have O367 := O55.fresh hb364
      clear H357 O55 hb364
      refine gw_news (O := .cells #[J 1, .slice A358 (([(⟨0, 255⟩ : S55)]).length) c359, .slice none 0 0] 26 (0, 0)) (n := 1) H366 O367 (want_none rfl) rfl (by decide) (op_bslice (by kernel_rfl) rfl (pt_cons (H366.ev rfl) pt_nil)) ?_
      intro g369 _ w371 H372 O373; clear H366 O367
      have O374 : Own w w371 [Bk g369 [J 1, .slice A358 (([(⟨0, 255⟩ : S55)]).length) c359, .slice none 0 0] 26, Chunk.view k55 S360 A358 (([(⟨0, 255⟩ : S55)]).length) c359 ([(⟨0, 255⟩ : S55)]), Chunk.nrow k26 26 w.heap.size Sa (.slice Aa kids.length ca) kids, Bk g2 [J 0, .slice none 0 0, .slice none 0 0] 26] := O373
      clear O373
      have O375 : Own w w371 [Chunk.view k26 (fun k_ => k_ = g369 ∨ S360 k_) (some ⟨g369, 0, none⟩) (([(⟨1, ([(⟨0, 255⟩ : S55)]), []⟩ : S26)]).length) (([(⟨1, ([(⟨0, 255⟩ : S55)]), []⟩ : S26)]).length) ([(⟨1, ([(⟨0, 255⟩ : S55)]), []⟩ : S26)]), Chunk.nrow k26 26 w.heap.size Sa (.slice Aa kids.length ca) kids, Bk g2 [J 0, .slice none 0 0, .slice none 0 0] 26] := Own.lit_view (cs := [J 1, .slice A358 (([(⟨0, 255⟩ : S55)]).length) c359, .slice none 0 0]) (O374.sel [0, 1, 2, 3] (by decide)) k26 [(⟨1, ([(⟨0, 255⟩ : S55)]), []⟩ : S26)] (fun w_ h_ => reps_more (k26_mkF _ _ (⟨1, ([(⟨0, 255⟩ : S55)]), []⟩ : S26) h_.2.1 h_.1 (Nat.le_refl _) (Kd.F_nil _ _ _)) rfl reps_none) (by simp [maxLen])
      clear O374
      refine V H372 (op_build (cells := #[J 4, .slice none 0 0, .slice (some ⟨g369, 0, none⟩) (([(⟨1, ([(⟨0, 255⟩ : S55)]), []⟩ : S26)]).length) (([(⟨1, ([(⟨0, 255⟩ : S55)]), []⟩ : S26)]).length)]) rfl (pt_cons (ev_c _ _) (pt_cons (H372.ev rfl) pt_nil)) (by kernel_rfl)) ?_
      intro _ H378; clear H372
      refine gw_news (O := .cells #[J 4, .slice none 0 0, .slice (some ⟨g369, 0, none⟩) (([(⟨1, ([(⟨0, 255⟩ : S55)]), []⟩ : S26)]).length) (([(⟨1, ([(⟨0, 255⟩ : S55)]), []⟩ : S26)]).length)] 26 (0, 0)) (n := 1) H378 O375 (want_none rfl) rfl (by decide) (op_bslice (by kernel_rfl) rfl (pt_cons (H378.ev rfl) pt_nil)) ?_
      intro g379 _ w381 H382 O383; clear H378 O375
      have O384 : Own w w381 [Bk g379 [J 4, .slice none 0 0, .slice (some ⟨g369, 0, none⟩) (([(⟨1, ([(⟨0, 255⟩ : S55)]), []⟩ : S26)]).length) (([(⟨1, ([(⟨0, 255⟩ : S55)]), []⟩ : S26)]).length)] 26, Chunk.view k26 (fun k_ => k_ = g369 ∨ S360 k_) (some ⟨g369, 0, none⟩) (([(⟨1, ([(⟨0, 255⟩ : S55)]), []⟩ : S26)]).length) (([(⟨1, ([(⟨0, 255⟩ : S55)]), []⟩ : S26)]).length) ([(⟨1, ([(⟨0, 255⟩ : S55)]), []⟩ : S26)]), Chunk.nrow k26 26 w.heap.size Sa (.slice Aa kids.length ca) kids, Bk g2 [J 0, .slice none 0 0, .slice none 0 0] 26] := O383
      clear O383
      have O385 : Own w w381 [Chunk.view k26 (fun k_ => k_ = g379 ∨ (fun k_ => k_ = g369 ∨ S360 k_) k_) (some ⟨g379, 0, none⟩) (([(⟨4, [], [(⟨1, ([(⟨0, 255⟩ : S55)]), []⟩ : S26)]⟩ : S26)]).length) (([(⟨4, [], [(⟨1, ([(⟨0, 255⟩ : S55)]), []⟩ : S26)]⟩ : S26)]).length) ([(⟨4, [], [(⟨1, ([(⟨0, 255⟩ : S55)]), []⟩ : S26)]⟩ : S26)]), Chunk.nrow k26 26 w.heap.size Sa (.slice Aa kids.length ca) kids, Bk g2 [J 0, .slice none 0 0, .slice none 0 0] 26] := Own.lit_view (cs := [J 4, .slice none 0 0, .slice (some ⟨g369, 0, none⟩) (([(⟨1, ([(⟨0, 255⟩ : S55)]), []⟩ : S26)]).length) (([(⟨1, ([(⟨0, 255⟩ : S55)]), []⟩ : S26)]).length)]) (O384.sel [0, 1, 2, 3] (by decide)) k26 [(⟨4, [], [(⟨1, ([(⟨0, 255⟩ : S55)]), []⟩ : S26)]⟩ : S26)] (fun w_ h_ => reps_more (k26_mkF _ _ (⟨4, [], [(⟨1, ([(⟨0, 255⟩ : S55)]), []⟩ : S26)]⟩ : S26) (Nat.le_refl _) (Kd.F_nil _ _ _) h_.2.1 h_.1) rfl reps_none) (by simp [maxLen])
      clear O384
      have O387 : Own w w381 [Chunk.nrow k26 26 w.heap.size Sa (.slice Aa kids.length ca) kids, Chunk.view k26 (fun k_ => k_ = g379 ∨ (fun k_ => k_ = g369 ∨ S360 k_) k_) (some ⟨g379, 0, none⟩) (([(⟨4, [], [(⟨1, ([(⟨0, 255⟩ : S55)]), []⟩ : S26)]⟩ : S26)]).length) (([(⟨4, [], [(⟨1, ([(⟨0, 255⟩ : S55)]), []⟩ : S26)]⟩ : S26)]).length) ([(⟨4, [], [(⟨1, ([(⟨0, 255⟩ : S55)]), []⟩ : S26)]⟩ : S26)]), Bk g2 [J 0, .slice none 0 0, .slice none 0 0] 26] := O385.sel [1, 0, 2] (by decide)
      refine gw_nappend k26 (ys := [(⟨4, [], [(⟨1, ([(⟨0, 255⟩ : S55)]), []⟩ : S26)]⟩ : S26)]) H382 O387 (want_none rfl) rfl (by decide) rfl Tryz.underlying24 gwinfo26 rfl (by decide) (by decide) (H382.ev rfl) (H382.ev rfl) (fun w_ h_ => h_.1) O387.below.size (by omega) ?_
      intro A388 c389 S390 _ w392 H393 O394; clear H382 O385 O387
      have O395 : Own w w392 [Chunk.nrow k26 26 w.heap.size S390 (.slice A388 ((kids ++ [(⟨4, [], [(⟨1, ([(⟨0, 255⟩ : S55)]), []⟩ : S26)]⟩ : S26)]).length) c389) (kids ++ [(⟨4, [], [(⟨1, ([(⟨0, 255⟩ : S55)]), []⟩ : S26)]⟩ : S26)]), Bk g2 [J 0, .slice none 0 0, .slice none 0 0] 26] := O394
      clear O394
      refine V H393 (op_assign rfl (H393.ev rfl)) ?_
      intro _ H397; clear H393
      refine gE hK355 ?_
      refine wp_region_lit ?_
      refine V H397 (op_move rfl (H397.ev rfl)) ?_
      intro _ H399; clear H397
      refine V H399 (op_add rfl (H399.ev rfl) (ev_c _ _) (by omega)) ?_
      intro _ H401; clear H399
      refine V H401 (op_assign rfl (H401.ev rfl)) ?_
      intro _ H403; clear H401
      refine wpList_nil ?_
      refine gw_blk ?_
      refine gw_blk ?_
      refine gw_nx ⟨_, ?_, p + 1, (kids ++ [(⟨4, [], [(⟨1, ([(⟨0, 255⟩ : S55)]), []⟩ : S26)]⟩ : S26)]), A388, _, _, (H403.pick (t := 6) rfl (H403.pick (t := 5) rfl (H403.pick (t := 0) rfl (H403.pick (t := 2) rfl H403.nil)))), O395.sel [0, 1] (by decide), ?_, ?_, ?_, rfl⟩
      ·
       rw [hm56]; omega
      ·
       omega
      ·
       rw [List.length_append, List.length_singleton]; omega
      ·
       exact ⟨k, by rw [hpr]; exact hk, by rw [hpr]; exact hR.symm⟩
     ·
      have H404 := H352.subst_ (d := 52) (b := false) rfl hb353
      clear H352
      (try simp only [decide_eq_false_iff_not] at hb353)
      rw [if_neg (fun h_ => hb353 (hbx.trans h_))] at hR
      refine gR fun K405 hK405 => ?_
      refine V H404 (op_eqi rfl (H404.ev rfl) (ev_c _ _)) ?_
      intro _ H407; clear H404
      refine V H407 (op_assign rfl (H407.ev rfl)) ?_
      intro _ H409; clear H407
      refine gE hK405 ?_
      refine gw_cond H409 rfl (fun hb410 => ?_) (fun hb410 => ?_)
      ·
       have H411 := H409.subst_ (d := 62) (b := true) rfl hb410
       clear H409
       (try simp only [decide_eq_true_eq] at hb410)
       rw [if_pos (hbx ▸ hb410)] at hR
       refine gR fun K412 hK412 => ?_
       refine V H411 (op_move rfl (H411.ev rfl)) ?_
       intro _ H414; clear H411
       refine V H414 (op_move rfl (H414.ev rfl)) ?_
       intro _ H416; clear H414
       have O436 : Own w _ [(Chunk.all [Chunk.nrow k26 26 w.heap.size Sa (.slice Aa kids.length ca) kids, Bk g2 [J 0, .slice none 0 0, .slice none 0 0] 26])] := Own.bundle (O55.sel [0, 1] (by decide))
       refine gw_call H416 (want_none rfl) rfl (by decide) (op_callL Tryz.func22 (by kernel_rfl) rfl rfl (ar_cons (H416.ev rfl) (ar_cons (H416.ev rfl) ar_nil))) (rclass_fork w _ (Chunk.all [Chunk.nrow k26 26 w.heap.size Sa (.slice Aa kids.length ca) kids, Bk g2 [J 0, .slice none 0 0, .slice none 0 0] 26]) s p (by omega) hs (by exact O436)) ?_
       rintro e430 w431 (⟨rs418, nt419, r2420, A421, c422, S423, hT, hrr2, hp3, hp4, rfl, hb432⟩ | ⟨e2424, m417, k426, n427, L425, A421, c422, S423, hT, he0, rfl, hb432⟩)
       ·
        refine ⟨_, rfl, fun _ H434 => ?_⟩
        have O435 : Own w w431 [Chunk.nrow k26 26 w.heap.size Sa (.slice Aa kids.length ca) kids, Bk g2 [J 0, .slice none 0 0, .slice none 0 0] 26, Chunk.view k55 S423 A421 (((canonP fun c_ => inR rs418 c_ != nt419)).length) c422 (canonP fun c_ => inR rs418 c_ != nt419)] := Own.unbundle (A := [Chunk.nrow k26 26 w.heap.size Sa (.slice Aa kids.length ca) kids, Bk g2 [J 0, .slice none 0 0, .slice none 0 0] 26]) (L := [Chunk.view k55 S423 A421 (((canonP fun c_ => inR rs418 c_ != nt419)).length) c422 (canonP fun c_ => inR rs418 c_ != nt419)]) hb432
        clear O436 hb432
        clear H416 O55
        rw [← hpr, hT] at hR
        simp only at hR
        refine V H434 (op_move rfl (H434.ev rfl)) ?_
        intro _ H438; clear H434
        refine V H438 (op_extract rfl (H438.ev rfl) rfl) ?_
        intro _ H440; clear H438
        refine V H440 (op_extract rfl (H440.ev rfl) rfl) ?_
        intro _ H442; clear H440
        refine V H442 (op_extract rfl (H442.ev rfl) rfl) ?_
        intro _ H444; clear H442
        refine V H444 (op_extract rfl (H444.ev rfl) rfl) ?_
        intro _ H446; clear H444
        refine gw_new H446 O435 (want_none rfl) rfl (by decide) (op_alloc gwzer26 rfl) ?_
        intro g447 _ w449 H450 O451; clear H446 O435
        have O452 : Own w w449 [Bk g447 [J 0, .slice none 0 0, .slice none 0 0] 26, Chunk.nrow k26 26 w.heap.size Sa (.slice Aa kids.length ca) kids, Bk g2 [J 0, .slice none 0 0, .slice none 0 0] 26, Chunk.view k55 S423 A421 (((canonP fun c_ => inR rs418 c_ != nt419)).length) c422 (canonP fun c_ => inR rs418 c_ != nt419)] := O451
        clear O451
        refine gw_setn 0 H450 O452 rfl (want_none rfl) rfl (op_storen gwsiz26 rfl (H450.ev rfl) (H450.ev rfl) (O452.get 0 rfl) rfl (by simp) (by simp [Value.oneCell'])) ?_
        intro _ w455 H454 O456; clear H450 O452
        refine V H454 (op_assign rfl (H454.ev rfl)) ?_
        intro _ H458; clear H454
        refine V H458 (op_assign rfl (H458.ev rfl)) ?_
        intro _ H460; clear H458
        refine V H460 (op_assign rfl (H460.ev rfl)) ?_
        intro _ H462; clear H460
        refine gE hK412 ?_
        refine gw_seq fun K463 hK463 => ?_
        refine gR fun K464 hK464 => ?_
        refine V H462 (op_move rfl (H462.ev rfl)) ?_
        intro _ H466; clear H462
        refine V H466 (op_nei rfl (H466.ev rfl) (ev_c _ _)) ?_
        intro _ H468; clear H466
        have H469 := H468.lit (b := false) (by decide)
        clear H468
        refine gE hK464 ?_
        refine gw_cond H469 rfl (fun hb470 => ?_) (fun hb470 => ?_)
        skip
        ·
         cases hb470
        refine wp_skip ?_
        refine gw_nx (hK463 _ _ ?_)
        refine gR fun K471 hK471 => ?_
        refine V H469 (op_move rfl (H469.ev rfl)) ?_
        intro _ H473; clear H469
        refine V H473 (op_loadn gwagg26 gwsiz26 rfl (H473.ev rfl) (O456.get 0 rfl) rfl rfl) ?_
        intro _ H475; clear H473
        refine gw_news (O := .cells #[J 1, .slice A421 (((canonP fun c_ => inR rs418 c_ != nt419)).length) c422, .slice none 0 0] 26 (0, 0)) (n := 1) H475 O456 (want_none rfl) rfl (by decide) (op_bslice (by kernel_rfl) rfl (pt_cons (H475.ev rfl) pt_nil)) ?_
        intro g476 _ w478 H479 O480; clear H475 O456
        have O481 : Own w w478 [Bk g476 [J 1, .slice A421 (((canonP fun c_ => inR rs418 c_ != nt419)).length) c422, .slice none 0 0] 26, Bk g447 [J 1, .slice A421 (((canonP fun c_ => inR rs418 c_ != nt419)).length) c422, .slice none 0 0] 26, Chunk.nrow k26 26 w.heap.size Sa (.slice Aa kids.length ca) kids, Bk g2 [J 0, .slice none 0 0, .slice none 0 0] 26, Chunk.view k55 S423 A421 (((canonP fun c_ => inR rs418 c_ != nt419)).length) c422 (canonP fun c_ => inR rs418 c_ != nt419)] := O480
        clear O480
        have O482 : Own w w478 [Chunk.view k26 (fun k_ => k_ = g476 ∨ S423 k_) (some ⟨g476, 0, none⟩) (([(⟨1, (canonP fun c_ => inR rs418 c_ != nt419), []⟩ : S26)]).length) (([(⟨1, (canonP fun c_ => inR rs418 c_ != nt419), []⟩ : S26)]).length) ([(⟨1, (canonP fun c_ => inR rs418 c_ != nt419), []⟩ : S26)]), Bk g447 [J 1, .slice A421 (((canonP fun c_ => inR rs418 c_ != nt419)).length) c422, .slice none 0 0] 26, Chunk.nrow k26 26 w.heap.size Sa (.slice Aa kids.length ca) kids, Bk g2 [J 0, .slice none 0 0, .slice none 0 0] 26] := Own.lit_view (cs := [J 1, .slice A421 (((canonP fun c_ => inR rs418 c_ != nt419)).length) c422, .slice none 0 0]) (O481.sel [0, 4, 1, 2, 3] (by decide)) k26 [(⟨1, (canonP fun c_ => inR rs418 c_ != nt419), []⟩ : S26)] (fun w_ h_ => reps_more (k26_mkF _ _ (⟨1, (canonP fun c_ => inR rs418 c_ != nt419), []⟩ : S26) h_.2.1 h_.1 (Nat.le_refl _) (Kd.F_nil _ _ _)) rfl reps_none) (by simp [maxLen])
        clear O481
        have O484 : Own w w478 [Chunk.nrow k26 26 w.heap.size Sa (.slice Aa kids.length ca) kids, Chunk.view k26 (fun k_ => k_ = g476 ∨ S423 k_) (some ⟨g476, 0, none⟩) (([(⟨1, (canonP fun c_ => inR rs418 c_ != nt419), []⟩ : S26)]).length) (([(⟨1, (canonP fun c_ => inR rs418 c_ != nt419), []⟩ : S26)]).length) ([(⟨1, (canonP fun c_ => inR rs418 c_ != nt419), []⟩ : S26)]), Bk g447 [J 1, .slice A421 (((canonP fun c_ => inR rs418 c_ != nt419)).length) c422, .slice none 0 0] 26, Bk g2 [J 0, .slice none 0 0, .slice none 0 0] 26] := O482.sel [2, 0, 1, 3] (by decide)
        refine gw_nappend k26 (ys := [(⟨1, (canonP fun c_ => inR rs418 c_ != nt419), []⟩ : S26)]) H479 O484 (want_none rfl) rfl (by decide) rfl Tryz.underlying24 gwinfo26 rfl (by decide) (by decide) (H479.ev rfl) (H479.ev rfl) (fun w_ h_ => h_.1) O484.below.size (by omega) ?_
        intro A485 c486 S487 _ w489 H490 O491; clear H479 O482 O484
        have O492 : Own w w489 [Chunk.nrow k26 26 w.heap.size S487 (.slice A485 ((kids ++ [(⟨1, (canonP fun c_ => inR rs418 c_ != nt419), []⟩ : S26)]).length) c486) (kids ++ [(⟨1, (canonP fun c_ => inR rs418 c_ != nt419), []⟩ : S26)]), Bk g447 [J 1, .slice A421 (((canonP fun c_ => inR rs418 c_ != nt419)).length) c422, .slice none 0 0] 26, Bk g2 [J 0, .slice none 0 0, .slice none 0 0] 26] := O491
        clear O491
        refine V H490 (op_assign rfl (H490.ev rfl)) ?_
        intro _ H494; clear H490
        refine gE hK471 ?_
        refine wp_region_lit ?_
        refine V H494 (op_move rfl (H494.ev rfl)) ?_
        intro _ H496; clear H494
        refine V H496 (op_assign rfl (H496.ev rfl)) ?_
        intro _ H498; clear H496
        refine wpList_nil ?_
        refine gw_blk ?_
        refine gw_blk ?_
        refine gw_nx ⟨_, ?_, ((s.size : Int) - r2420.length), (kids ++ [(⟨1, (canonP fun c_ => inR rs418 c_ != nt419), []⟩ : S26)]), A485, _, _, (H498.pick (t := 6) rfl (H498.pick (t := 5) rfl (H498.pick (t := 0) rfl (H498.pick (t := 2) rfl H498.nil)))), O492.sel [0, 2] (by decide), ?_, ?_, ?_, rfl⟩
        ·
         rw [hm56]; omega
        ·
         omega
        ·
         rw [List.length_append, List.length_singleton]; omega
        ·
         exact ⟨k, by rw [hrr2]; (have h_ := rest_len s ((s.size : Int) - r2420.length) (by omega); have h2_ := rest_len s (p + 1) (by omega); rw [hrr2] at h_; rw [hpr] at h2_; omega), by rw [hrr2]; exact hR.symm⟩
       ·
        refine ⟨_, rfl, fun _ H434 => ?_⟩
        have O435 : Own w w431 [Chunk.nrow k26 26 w.heap.size Sa (.slice Aa kids.length ca) kids, Bk g2 [J 0, .slice none 0 0, .slice none 0 0] 26, Chunk.view k55 S423 A421 ((L425).length) c422 L425] := Own.unbundle (A := [Chunk.nrow k26 26 w.heap.size Sa (.slice Aa kids.length ca) kids, Bk g2 [J 0, .slice none 0 0, .slice none 0 0] 26]) (L := [Chunk.view k55 S423 A421 ((L425).length) c422 L425]) hb432
        clear O436 hb432
        clear H416 O55
        rw [← hpr, hT] at hR
        simp only at hR
        refine V H434 (op_move rfl (H434.ev rfl)) ?_
        intro _ H500; clear H434
        refine V H500 (op_extract rfl (H500.ev rfl) rfl) ?_
        intro _ H502; clear H500
        refine V H502 (op_extract rfl (H502.ev rfl) rfl) ?_
        intro _ H504; clear H502
        refine V H504 (op_extract rfl (H504.ev rfl) rfl) ?_
        intro _ H506; clear H504
        refine V H506 (op_extract rfl (H506.ev rfl) rfl) ?_
        intro _ H508; clear H506
        refine gw_new H508 O435 (want_none rfl) rfl (by decide) (op_alloc gwzer26 rfl) ?_
        intro g509 _ w511 H512 O513; clear H508 O435
        have O514 : Own w w511 [Bk g509 [J 0, .slice none 0 0, .slice none 0 0] 26, Chunk.nrow k26 26 w.heap.size Sa (.slice Aa kids.length ca) kids, Bk g2 [J 0, .slice none 0 0, .slice none 0 0] 26, Chunk.view k55 S423 A421 ((L425).length) c422 L425] := O513
        clear O513
        refine gw_setn 0 H512 O514 rfl (want_none rfl) rfl (op_storen gwsiz26 rfl (H512.ev rfl) (H512.ev rfl) (O514.get 0 rfl) rfl (by simp) (by simp [Value.oneCell'])) ?_
        intro _ w517 H516 O518; clear H512 O514
        refine V H516 (op_assign rfl (H516.ev rfl)) ?_
        intro _ H520; clear H516
        refine V H520 (op_assign rfl (H520.ev rfl)) ?_
        intro _ H522; clear H520
        refine V H522 (op_assign rfl (H522.ev rfl)) ?_
        intro _ H524; clear H522
        refine gE hK412 ?_
        refine gw_seq fun K525 hK525 => ?_
        refine gR fun K526 hK526 => ?_
        refine V H524 (op_move rfl (H524.ev rfl)) ?_
        intro _ H528; clear H524
        refine V H528 (op_nei rfl (H528.ev rfl) (ev_c _ _)) ?_
        intro _ H530; clear H528
        have H531 := H530.lit (b := true) (by simpa using he0)
        clear H530
        refine gE hK526 ?_
        refine gw_cond H531 rfl (fun hb532 => ?_) (fun hb532 => ?_)
        rotate_left
        ·
         cases hb532
        refine gR fun K533 hK533 => ?_
        refine V H531 (op_build (cells := #[J 0, .slice none 0 0, .slice none 0 0]) rfl pt_nil (by kernel_rfl)) ?_
        intro _ H535; clear H531
        refine V H535 (op_move rfl (H535.ev rfl)) ?_
        intro _ H537; clear H535
        refine V H537 (op_move rfl (H537.ev rfl)) ?_
        intro _ H539; clear H537
        refine gw_setn 2 H539 O518 rfl (want_none rfl) rfl (op_storen gwsiz26 rfl (H539.ev rfl) (H539.ev rfl) (O518.get 2 rfl) rfl (by simp) (by simp [Value.oneCell'])) ?_
        intro _ w542 H541 O543; clear H539 O518
        refine V H541 (op_assign rfl (H541.ev rfl)) ?_
        intro _ H545; clear H541
        refine V H545 (op_assign rfl (H545.ev rfl)) ?_
        intro _ H547; clear H545
        refine gE hK533 ?_
        refine wp_ret ?_
        refine gw_thr ?_
        refine gw_blr ?_
        refine gw_blr ?_
        refine gw_thr ?_
        refine gw_blr ?_
        refine gw_thr ?_
        refine gw_rets3 H547 rfl (rv_celln H547 rfl gwagg26 gwsiz26 (O543.get 2 rfl) rfl) (rv_tmp H547 rfl) (rv_tmp H547 rfl) ?_
        rw [show parseG s = (0, [], e2424, (s.size : Int) - (m417 : Nat)) from parseG_bad hlong (hR.symm.trans hRES)]
        exact ⟨none, 0, _, rfl, ((O543.nrow_nil k26 26 w.heap.size).sel [0] (by decide)).out⟩
      ·
       have H548 := H409.subst_ (d := 62) (b := false) rfl hb410
       clear H409
       (try simp only [decide_eq_false_iff_not] at hb410)
       rw [if_neg (fun h_ => hb410 (hbx.trans h_))] at hR
       refine gR fun K549 hK549 => ?_
       refine V H548 (op_move rfl (H548.ev rfl)) ?_
       intro _ H551; clear H548
       refine V H551 (op_move rfl (H551.ev rfl)) ?_
       intro _ H553; clear H551
       refine gw_call H553 (want_none rfl) rfl (by decide) (op_callL Tryz.func23 (by kernel_rfl) rfl rfl (ar_cons (H553.ev rfl) (ar_cons (H553.ev rfl) ar_nil))) (item_is s p _ (by omega) hs x ((s.size : Int) - r.length) true (item_ok hb1)) ?_
       rintro e554 w555 ⟨rfl, hb556⟩
       refine ⟨_, rfl, fun _ H558 => ?_⟩
       have O559 := O55.after hb556
       clear H553 O55 hb556
       refine V H558 (op_move rfl (H558.ev rfl)) ?_
       intro _ H562; clear H558
       refine V H562 (op_extract rfl (H562.ev rfl) rfl) ?_
       intro _ H564; clear H562
       refine V H564 (op_extract rfl (H564.ev rfl) rfl) ?_
       intro _ H566; clear H564
       refine V H566 (op_extract rfl (H566.ev rfl) rfl) ?_
       intro _ H568; clear H566
       refine V H568 (op_assign rfl (H568.ev rfl)) ?_
       intro _ H570; clear H568
       refine V H570 (op_assign rfl (H570.ev rfl)) ?_
       intro _ H572; clear H570
       refine V H572 (op_assign rfl (H572.ev rfl)) ?_
       intro _ H574; clear H572
       refine gE hK549 ?_
       refine gw_seq fun K575 hK575 => ?_
       refine gR fun K576 hK576 => ?_
       refine V H574 (op_move rfl (H574.ev rfl)) ?_
       intro _ H578; clear H574
       refine V H578 (op_not rfl (H578.ev rfl)) ?_
       intro _ H580; clear H578
       refine gE hK576 ?_
       refine gw_cond H580 rfl (fun hb581 => ?_) (fun hb581 => ?_)
       skip
       ·
        cases hb581
       refine wp_skip ?_
       refine gw_nx (hK575 _ _ ?_)
       refine gR fun K582 hK582 => ?_
       refine V H580 (op_move rfl (H580.ev rfl)) ?_
       intro _ H584; clear H580
       refine V H584 (op_move rfl (H584.ev rfl)) ?_
       intro _ H586; clear H584
       refine gw_call H586 (want_none rfl) rfl (by decide) (op_callL Tryz.func24 (by kernel_rfl) rfl rfl (ar_cons (H586.ev rfl) ar_nil)) (rone_walk x _) ?_
       rintro e591 w592 ⟨A587, c588, S589, rfl, hb593⟩
       refine ⟨_, rfl, fun _ H595 => ?_⟩
       have O596 := O559.fresh hb593
       clear H586 O559 hb593
       refine gw_news (O := .cells #[J 1, .slice A587 (([(⟨x, x⟩ : S55)]).length) c588, .slice none 0 0] 26 (0, 0)) (n := 1) H595 O596 (want_none rfl) rfl (by decide) (op_bslice (by kernel_rfl) rfl (pt_cons (H595.ev rfl) pt_nil)) ?_
       intro g598 _ w600 H601 O602; clear H595 O596
       have O603 : Own w w600 [Bk g598 [J 1, .slice A587 (([(⟨x, x⟩ : S55)]).length) c588, .slice none 0 0] 26, Chunk.view k55 S589 A587 (([(⟨x, x⟩ : S55)]).length) c588 ([(⟨x, x⟩ : S55)]), Chunk.nrow k26 26 w.heap.size Sa (.slice Aa kids.length ca) kids, Bk g2 [J 0, .slice none 0 0, .slice none 0 0] 26] := O602
       clear O602
       have O604 : Own w w600 [Chunk.view k26 (fun k_ => k_ = g598 ∨ S589 k_) (some ⟨g598, 0, none⟩) (([(⟨1, ([(⟨x, x⟩ : S55)]), []⟩ : S26)]).length) (([(⟨1, ([(⟨x, x⟩ : S55)]), []⟩ : S26)]).length) ([(⟨1, ([(⟨x, x⟩ : S55)]), []⟩ : S26)]), Chunk.nrow k26 26 w.heap.size Sa (.slice Aa kids.length ca) kids, Bk g2 [J 0, .slice none 0 0, .slice none 0 0] 26] := Own.lit_view (cs := [J 1, .slice A587 (([(⟨x, x⟩ : S55)]).length) c588, .slice none 0 0]) (O603.sel [0, 1, 2, 3] (by decide)) k26 [(⟨1, ([(⟨x, x⟩ : S55)]), []⟩ : S26)] (fun w_ h_ => reps_more (k26_mkF _ _ (⟨1, ([(⟨x, x⟩ : S55)]), []⟩ : S26) h_.2.1 h_.1 (Nat.le_refl _) (Kd.F_nil _ _ _)) rfl reps_none) (by simp [maxLen])
       clear O603
       have O606 : Own w w600 [Chunk.nrow k26 26 w.heap.size Sa (.slice Aa kids.length ca) kids, Chunk.view k26 (fun k_ => k_ = g598 ∨ S589 k_) (some ⟨g598, 0, none⟩) (([(⟨1, ([(⟨x, x⟩ : S55)]), []⟩ : S26)]).length) (([(⟨1, ([(⟨x, x⟩ : S55)]), []⟩ : S26)]).length) ([(⟨1, ([(⟨x, x⟩ : S55)]), []⟩ : S26)]), Bk g2 [J 0, .slice none 0 0, .slice none 0 0] 26] := O604.sel [1, 0, 2] (by decide)
       refine gw_nappend k26 (ys := [(⟨1, ([(⟨x, x⟩ : S55)]), []⟩ : S26)]) H601 O606 (want_none rfl) rfl (by decide) rfl Tryz.underlying24 gwinfo26 rfl (by decide) (by decide) (H601.ev rfl) (H601.ev rfl) (fun w_ h_ => h_.1) O606.below.size (by omega) ?_
       intro A607 c608 S609 _ w611 H612 O613; clear H601 O604 O606
       have O614 : Own w w611 [Chunk.nrow k26 26 w.heap.size S609 (.slice A607 ((kids ++ [(⟨1, ([(⟨x, x⟩ : S55)]), []⟩ : S26)]).length) c608) (kids ++ [(⟨1, ([(⟨x, x⟩ : S55)]), []⟩ : S26)]), Bk g2 [J 0, .slice none 0 0, .slice none 0 0] 26] := O613
       clear O613
       refine V H612 (op_assign rfl (H612.ev rfl)) ?_
       intro _ H616; clear H612
       refine gE hK582 ?_
       refine wp_region_lit ?_
       refine V H616 (op_move rfl (H616.ev rfl)) ?_
       intro _ H618; clear H616
       refine V H618 (op_assign rfl (H618.ev rfl)) ?_
       intro _ H620; clear H618
       refine wpList_nil ?_
       refine gw_blk ?_
       refine gw_blk ?_
       refine gw_nx ⟨_, ?_, ((s.size : Int) - r.length), (kids ++ [(⟨1, ([(⟨x, x⟩ : S55)]), []⟩ : S26)]), A607, _, _, (H620.pick (t := 6) rfl (H620.pick (t := 5) rfl (H620.pick (t := 0) rfl (H620.pick (t := 2) rfl H620.nil)))), O614.sel [0, 1] (by decide), ?_, ?_, ?_, rfl⟩
       ·
        rw [hm56]; omega
       ·
        omega
       ·
        rw [List.length_append, List.length_singleton]; omega
       ·
        exact ⟨k, by rw [hrr]; exact hk, by rw [hrr]; exact hR.symm⟩
end GRefP_
export GRefP_ (rParse_walk)
end Go.Proofs.YtelbgmpeghhakaaGreat.PA
end
section
namespace Go.Proofs.YtelbgmpeghhakaaGreat.PA
open Go.RowKit Go.Proofs.YtelbgmpeghhakaaGreatW.PrintWords Go.Proofs.YtelbgmpeghhakaaGreatW.PrintLast Go.Proofs.YtelbgmpeghhakaaGreatW.PrintMore
set_option linter.unusedVariables false
set_option linter.unusedSimpArgs false
theorem parseG_kind {s : ByteArray} (h : (parseG s).2.2.1 = 0) : (parseG s).1 = 2 := by
  unfold parseG at h ⊢
  by_cases hl : 256 < (s.size : Int)
  · rw [if_pos hl] at h; exact absurd h (by decide)
  · rw [if_neg hl] at h ⊢
    cases hp : parseS (s.size + 1) (bytesOf s) [] with
    | inl K => rfl
    | inr v =>
      obtain ⟨e, m⟩ := v
      rw [hp] at h
      exact absurd h (parseS_err _ _ _ _ _ (by rw [bytesOf_length]; omega) hp)
theorem match_err {p s : ByteArray} (h : ¬ (parseG p).2.2.1 = 0) : matchB p s = false := by
  unfold matchB
  rw [decide_eq_false h]
  rfl
theorem glob_eq {p s : ByteArray} {N : Nat} {T : Nat → Nat → Bool} (h : (parseG p).2.2.1 = 0) (hN : N = s.size + 1) (hT : ∀ x y, x < N → y < N → (T x y = true ↔ segM (parseG p).2.1 (bytesOf s) x y = true)) : T 0 s.size = matchB p s := by
  have e := hT 0 s.size (by omega) (by omega)
  have e2 := segM_all (parseG p).2.1 (bytesOf s)
  rw [bytesOf_length] at e2
  rw [e2] at e
  unfold matchB
  rw [decide_eq_true h, Bool.true_and]
  exact Bool.eq_iff_iff.2 e
end Go.Proofs.YtelbgmpeghhakaaGreat.PA
end
section
namespace Go.Proofs.YtelbgmpeghhakaaGreat.PA
open Go.RowKit Go.Proofs.YtelbgmpeghhakaaGreatW.PrintWords Go.Proofs.YtelbgmpeghhakaaGreatW.PrintLast Go.Proofs.YtelbgmpeghhakaaGreatW.PrintMore
set_option linter.unusedVariables false
set_option linter.unusedSimpArgs false
namespace GGlobM_
theorem gwagg26 : ∀ w, (isAgg 26).run Tryz.prog w = .ok true w := fun _ => by kernel_rfl
theorem gwagg35 : ∀ w, (isAgg 35).run Tryz.prog w = .ok false w := fun _ => by kernel_rfl
theorem gwagg4 : ∀ w, (isAgg 4).run Tryz.prog w = .ok false w := fun _ => by kernel_rfl
theorem gwsiz26 : ∀ w, (sizeOf 26).run Tryz.prog w = .ok 3 w := fun _ => by kernel_rfl
theorem gwsiz35 : ∀ w, (sizeOf 35).run Tryz.prog w = .ok 1 w := fun _ => by kernel_rfl
theorem gwsiz4 : ∀ w, (sizeOf 4).run Tryz.prog w = .ok 1 w := fun _ => by kernel_rfl
theorem gwzer26 : ∀ w, (zeroValue 26).run Tryz.prog w = .ok (.agg #[.int .i64 0, .slice none 0 0, .slice none 0 0]) w := fun _ => by kernel_rfl
set_option maxHeartbeats 4000000 in
set_option maxRecDepth 100000 in
theorem GlobMatches_walk (a0 a1 : ByteArray) (w : World) (h0 : True) (h1 : True) :
    Calls Tryz.prog 4 #[.string a0, .string a1] w fun e w' => e = .returned (.bool true) ∧ Below w.heap.size w w' := by
 obtain ⟨N, hN⟩ : ∃ N : Nat, N = a1.size + 1 := ⟨_, rfl⟩
 refine gw_start (N := 38) (vs := [.string a0, .string a1]) Tryz.func4 rfl rfl (by simp) fun a HF HO => ?_
 replace HO : Own w w [] := HO
 refine gR fun K1 hK1 => ?_
 refine V HF (op_assign rfl (ev_c _ _)) ?_
 intro _ H3; clear HF
 refine gE hK1 ?_
 refine gw_seq fun K4 hK4 => ?_
 refine gR fun K5 hK5 => ?_
 refine gw_call H3 (want_none rfl) rfl (by decide) (op_callL Tryz.func9 (by kernel_rfl) rfl rfl ar_nil) (alive_walk _) ?_
 rintro e6 w7 ⟨rfl, hb8⟩
 refine ⟨_, rfl, fun _ H10 => ?_⟩
 have O11 := HO.after hb8
 clear H3 HO hb8
 refine V H10 (op_not rfl (H10.ev rfl)) ?_
 intro _ H14; clear H10
 refine gE hK5 ?_
 refine gw_cond H14 rfl (fun hb15 => ?_) (fun hb15 => ?_)
 skip
 ·
  cases hb15
 refine wp_skip ?_
 refine gw_nx (hK4 _ _ ?_)
 refine gw_seq fun K16 hK16 => ?_
 refine gR fun K17 hK17 => ?_
 refine V H14 (op_move rfl (H14.ev rfl)) ?_
 intro _ H19; clear H14
 refine V H19 (op_lens Tryz.underlying9 rfl (H19.ev rfl)) ?_
 intro _ H21; clear H19
 refine V H21 (op_gtr rfl (H21.ev rfl) (ev_c _ _)) ?_
 intro _ H23; clear H21
 refine gE hK17 ?_
 refine gw_cond H23 rfl (fun hb24 => ?_) (fun hb24 => ?_)
 ·
  have H25 := H23.subst_ (d := 12) (b := true) rfl hb24
  clear H23
  (try simp only [decide_eq_true_eq] at hb24)
  refine gR fun K26 hK26 => ?_
  refine V H25 (op_assign rfl (ev_c _ _)) ?_
  intro _ H28; clear H25
  refine gE hK26 ?_
  refine wp_ret ?_
  refine gw_thr ?_
  refine gw_ret1 H28 rfl rfl ?_
  exact ⟨rfl, O11.below⟩
 ·
  have H29 := H23.subst_ (d := 12) (b := false) rfl hb24
  clear H23
  (try simp only [decide_eq_false_iff_not, Int.not_lt] at hb24)
  refine wp_skip ?_
  refine gw_nx (hK16 _ _ ?_)
  refine gR fun K30 hK30 => ?_
  refine V H29 (op_move rfl (H29.ev rfl)) ?_
  intro _ H32; clear H29
  refine gw_call H32 (want_none rfl) rfl (by decide) (op_callL Tryz.func11 (by kernel_rfl) rfl rfl (ar_cons (H32.ev rfl) ar_nil)) (rParse_walk a0 _) ?_
  rintro e37 w38 ⟨A33, c34, S35, rfl, hb39⟩
  refine ⟨_, rfl, fun _ H41 => ?_⟩
  have O42 := O11.fresh hb39
  clear H32 O11 hb39
  have O44 := O42.nrow_view 0 rfl
  clear O42
  have O45 : Own w w38 [Chunk.view k26 S35 A33 (((parseG a0).2.1).length) c34 ((parseG a0).2.1)] := O44
  clear O44
  refine V H41 (op_move rfl (H41.ev rfl)) ?_
  intro _ H47; clear H41
  refine V H47 (op_extract rfl (H47.ev rfl) rfl) ?_
  intro _ H49; clear H47
  refine V H49 (op_extract rfl (H49.ev rfl) rfl) ?_
  intro _ H51; clear H49
  refine V H51 (op_extract rfl (H51.ev rfl) rfl) ?_
  intro _ H53; clear H51
  refine gw_new H53 O45 (want_none rfl) rfl (by decide) (op_alloc gwzer26 rfl) ?_
  intro g54 _ w56 H57 O58; clear H53 O45
  have O59 : Own w w56 [Bk g54 [J 0, .slice none 0 0, .slice none 0 0] 26, Chunk.view k26 S35 A33 (((parseG a0).2.1).length) c34 ((parseG a0).2.1)] := O58
  clear O58
  refine gw_setn 0 H57 O59 rfl (want_none rfl) rfl (op_storen gwsiz26 rfl (H57.ev rfl) (H57.ev rfl) (O59.get 0 rfl) rfl (by simp) (by simp [Value.oneCell'])) ?_
  intro _ w62 H61 O63; clear H57 O59
  refine V H61 (op_assign rfl (H61.ev rfl)) ?_
  intro _ H65; clear H61
  refine V H65 (op_assign rfl (H65.ev rfl)) ?_
  intro _ H67; clear H65
  refine gE hK30 ?_
  refine gw_seq fun K68 hK68 => ?_
  refine gR fun K69 hK69 => ?_
  refine V H67 (op_move rfl (H67.ev rfl)) ?_
  intro _ H71; clear H67
  refine V H71 (op_nei rfl (H71.ev rfl) (ev_c _ _)) ?_
  intro _ H73; clear H71
  refine gE hK69 ?_
  refine gw_cond H73 rfl (fun hb74 => ?_) (fun hb74 => ?_)
  ·
   have H75 := H73.subst_ (d := 20) (b := true) rfl hb74
   clear H73
   (try simp only [decide_eq_true_eq, ne_eq] at hb74)
   have he := hb74
   refine gR fun K76 hK76 => ?_
   refine V H75 (op_move rfl (H75.ev rfl)) ?_
   intro _ H78; clear H75
   refine V H78 (op_move rfl (H78.ev rfl)) ?_
   intro _ H80; clear H78
   refine gw_call H80 (want_none rfl) rfl (by decide) (op_callL Tryz.func13 (by kernel_rfl) rfl rfl (ar_cons (H80.ev rfl) (ar_cons (H80.ev rfl) ar_nil))) (match_calls a0 a1 _ (by omega)) ?_
   rintro e81 w82 ⟨rfl, hb83⟩
   refine ⟨_, rfl, fun _ H85 => ?_⟩
   have O86 := O63.after hb83
   clear H80 O63 hb83
   refine V H85 (op_not rfl (H85.ev rfl)) ?_
   intro _ H89; clear H85
   have H90 := H89.lit (b := true) (by rw [match_err he]; rfl)
   clear H89
   refine V H90 (op_assign rfl (H90.ev rfl)) ?_
   intro _ H92; clear H90
   refine gE hK76 ?_
   refine wp_ret ?_
   refine gw_thr ?_
   refine gw_ret1 H92 rfl rfl ?_
   exact ⟨rfl, O86.below⟩
  ·
   have H93 := H73.subst_ (d := 20) (b := false) rfl hb74
   clear H73
   (try simp only [decide_eq_false_iff_not, ne_eq, Decidable.not_not] at hb74)
   have he := hb74
   refine wp_skip ?_
   refine gw_nx (hK68 _ _ ?_)
   refine gw_seq fun K94 hK94 => ?_
   have O95 := O63.pin 1 rfl
   clear O63
   have O96 : Own w w62 [Bk g54 [J ((parseG a0).1), .slice none 0 0, .slice A33 (((parseG a0).2.1).length) c34] 26, Chunk.viewAt w62 k26 S35 A33 (((parseG a0).2.1).length) c34 ((parseG a0).2.1)] := O95
   clear O95
   refine gx_draw (M := [Bk g54 [J ((parseG a0).1), .slice none 0 0, .slice A33 (((parseG a0).2.1).length) c34] 26, Chunk.viewAt w62 k26 S35 A33 (((parseG a0).2.1).length) c34 ((parseG a0).2.1)]) (fun j_ => false) O96 (by kernel_rfl) fun w97 O98 => ?_
   clear O96
   refine gx_take 0 rfl (by kernel_rfl) H93 (by exact O98.sel [0, 1] (by decide)) (want_none rfl) rfl (by decide) (fun wq HO => (op_move rfl (H93.ev rfl))) ?_
   intro _ H100; clear H93
   refine gx_take 1 rfl (by kernel_rfl) H100 (by exact O98.sel [0, 1] (by decide)) (want_none rfl) rfl (by decide) (fun wq HO => (op_move rfl (H100.ev rfl))) ?_
   intro _ H102; clear H100
   refine gx_take 3 rfl (by kernel_rfl) H102 (by exact O98.sel [0, 1] (by decide)) (want_none rfl) rfl (by decide) (fun wq HO => (op_loadn gwagg26 gwsiz26 rfl (H102.ev rfl) (HO.get 0 rfl) rfl rfl)) ?_
   intro _ H104; clear H102
   refine gx_take 4 rfl (by kernel_rfl) H104 (by exact O98.sel [0, 1] (by decide)) (want_none rfl) rfl (by decide) (fun wq HO => (op_move rfl (H104.ev rfl))) ?_
   intro _ H106; clear H104
   refine gx_take 8 rfl (by kernel_rfl) H106 (by exact O98.sel [0, 1] (by decide)) (want_none rfl) rfl (by decide) (fun wq HO => (op_move rfl (H106.ev rfl))) ?_
   intro _ H108; clear H106
   refine gx_take 9 rfl (by kernel_rfl) H108 (by exact O98.sel [0, 1] (by decide)) (want_none rfl) rfl (by decide) (fun wq HO => (op_lens Tryz.underlying9 rfl (H108.ev rfl))) ?_
   intro _ H110; clear H108
   refine gx_step 2 rfl (by kernel_rfl) ?_
   refine gw_call H110 (want_none rfl) rfl (by decide) (op_callL Tryz.func13 (by kernel_rfl) rfl rfl (ar_cons (H110.ev rfl) (ar_cons (H110.ev rfl) ar_nil))) (match_calls a0 a1 _ (by omega)) ?_
   rintro e111 w112 ⟨rfl, hb113⟩
   refine ⟨_, rfl, fun _ H115 => ?_⟩
   have O116 := O98.after hb113
   clear H110 O98 hb113
   refine gx_on (i := 2) (B := (fun j_ => false)) (fun _ => (by exact O116.sel [0, 1] (by decide))) ?_
   refine gx_step 5 rfl (by kernel_rfl) ?_
   refine gw_call H115 (want_none rfl) rfl (by decide) (op_callL Tryz.func14 (by kernel_rfl) rfl rfl (ar_cons (H115.ev rfl) (ar_cons (H115.ev rfl) ar_nil))) (rTable_root A33 c34 ((parseG a0).2.1) a1 N ((parseG a0).1) _ (parseG_kind he) (viewAt_C (O116.get 1 rfl)) (viewAt_le (O116.get 1 rfl)) (parseG_kids a0) hN (by omega)) ?_
   rintro e123 w124 ⟨Z118, S119, T120, rfl, hb125, hT121⟩
   refine ⟨_, rfl, fun _ H127 => ?_⟩
   have O128 := O116.fresh hb125
   clear H115 O116 hb125
   refine gx_on (i := 5) (B := (fun j_ => false)) (fun _ => (by exact O128.sel [1, 2] (by decide))) ?_
   refine gx_step 6 rfl (by kernel_rfl) ?_
   refine V H127 (op_index Tryz.underlying36 gwsiz35 rfl (H127.ev rfl) (ev_c _ _) rfl (⟨by omega, by omega⟩)) ?_
   intro _ H134; clear H127
   refine gx_on (i := 6) (B := (fun j_ => false)) (fun _ => (by exact O128.sel [1, 2] (by decide))) ?_
   refine gx_step 7 rfl (by kernel_rfl) ?_
   refine V H134 (op_load1 gwagg35 rfl (H134.ev rfl) (tab_row (O128.get 0 rfl) 0 (by omega) (by omega))) ?_
   intro _ H136; clear H134
   refine gx_on (i := 7) (B := (fun j_ => false)) (fun _ => (by exact O128.sel [1, 2] (by decide))) ?_
   refine gx_step 10 rfl (by kernel_rfl) ?_
   refine V H136 (op_index Tryz.underlying35 gwsiz4 rfl (H136.ev rfl) (H136.ev rfl) rfl (⟨by omega, by omega⟩)) ?_
   intro _ H141; clear H136
   refine gx_on (i := 10) (B := (fun j_ => false)) (fun _ => (by exact O128.sel [1, 2] (by decide))) ?_
   refine gx_step 11 rfl (by kernel_rfl) ?_
   refine V H141 (op_load1 gwagg4 rfl (H141.ev rfl) (tab_cell (O128.get 0 rfl) 0 (a1.size : Int) (by omega) (by omega) (by omega) (by omega))) ?_
   intro _ H143; clear H141
   refine gx_on (i := 11) (B := (fun j_ => false)) (fun _ => (by exact O128.sel [1, 2] (by decide))) ?_
   refine gx_take 12 rfl (by kernel_rfl) H143 (by exact O128.sel [1, 2] (by decide)) (want_none rfl) rfl (by decide) (fun wq HO => (op_eqb Tryz.underlying4 rfl (H143.ev rfl) (H143.ev rfl))) ?_
   intro _ H145; clear H143
   have H146 := H145.lit (b := true) (beq_iff_eq.2 (glob_eq he hN hT121).symm)
   clear H145
   refine gx_take 13 rfl (by kernel_rfl) H146 (by exact O128.sel [1, 2] (by decide)) (want_none rfl) rfl (by decide) (fun wq HO => (op_assign rfl (H146.ev rfl))) ?_
   intro _ H148; clear H146
   refine gx_done (by kernel_rfl) ?_
   refine gw_nx (hK94 _ _ ?_)
   refine wp_ret ?_
   have O149 := O128.unpin 2 rfl
   clear O128
   have O150 : Own w w124 [Chunk.tab S119 Z118 N T120, Bk g54 [J ((parseG a0).1), .slice none 0 0, .slice A33 (((parseG a0).2.1).length) c34] 26, Chunk.view k26 S35 A33 (((parseG a0).2.1).length) c34 ((parseG a0).2.1)] := O149
   clear O149
   refine gw_ret1 H148 rfl rfl ?_
   exact ⟨rfl, O150.below⟩
end GGlobM_
export GGlobM_ (GlobMatches_walk)
open Classical in
noncomputable def colloquylaw03_GlobMatches.f (a0 : ByteArray) (a1 : ByteArray) : Option Bool := if (True) ∧ (True) then some true else none
theorem colloquylaw03_GlobMatches.calls (a0 : ByteArray) (a1 : ByteArray) (r : Bool) (w : World)  (h : colloquylaw03_GlobMatches.f a0 a1 = some r) :
    Calls Tryz.prog 4 #[(.string a0), (.string a1)] w fun e w' => e = .returned (.bool r) ∧ Below w.heap.size w w' := by
  unfold colloquylaw03_GlobMatches.f at h
  split at h
  · cases h; rename_i hh; exact GlobMatches_walk a0 a1 w  hh.1 hh.2
  · cases h
end Go.Proofs.YtelbgmpeghhakaaGreat.PA
end
section
namespace Go.Proofs.YtelbgmpeghhakaaGreat.PA
open Go.RowKit Go.Proofs.YtelbgmpeghhakaaGreatW.PrintWords Go.Proofs.YtelbgmpeghhakaaGreatW.PrintLast Go.Proofs.YtelbgmpeghhakaaGreatW.PrintMore
structure Opens {α : Type} (P : Program) (t : TypeId) (d : Kd α) (good : α → Prop) (wt : α → Nat) (sz : α → Prop) : Prop where
  run : ∀ {H : Type} (enc : TypeId × Value → H) (w : World) (spare : Nat → Bool) (held : Bool) (fuel : Nat) (cs : List Value) (x : DataW H × List MemPlace),
    DataW.trod enc P w 0 spare held fuel t cs = some x → ∃ y : α, d.K w y cs ∧ good y ∧ wt y ≤ Rows.uptoBulk x.1 ∧ ((∀ n ∈ x.1.weights P t, n ≤ reachBytes) → sz y)
structure OpensF {α : Type} (P : Program) (fs : List Field) (off : Nat) (d : Kd α) (good : α → Prop) (wt : α → Nat) (sz : α → Prop) : Prop where
  run : ∀ {H : Type} (enc : TypeId × Value → H) (w : World) (spare : Nat → Bool) (held : Bool) (fuel : Nat) (cs : List Value) (xs : List (DataW H × List MemPlace)),
    (fs.mapM fun f => DataW.trod enc P w 0 spare held fuel f.type ((cs.drop f.offset).take (P.cellsOf f.type))) = some xs →
      ∃ y : α, d.K w y ((cs.drop off).take d.sz) ∧ good y ∧ wt y ≤ Rows.uptoBulkAll (xs.map (·.1)) ∧ ((∀ n ∈ DataW.weightsEach P (fs.map (·.type)) (xs.map (·.1)), n ≤ reachBytes) → sz y)
end Go.Proofs.YtelbgmpeghhakaaGreat.PA
end
section
namespace Go.Proofs.YtelbgmpeghhakaaGreat.PA
open Go.RowKit Go.Proofs.YtelbgmpeghhakaaGreatW.PrintWords Go.Proofs.YtelbgmpeghhakaaGreatW.PrintLast Go.Proofs.YtelbgmpeghhakaaGreatW.PrintMore
set_option linter.unusedVariables false
def colloquylaw03_GlobMatches.PureU : Prop := ∀ (x0 : ByteArray) (x1 : ByteArray), (x0).size ≤ maxLen → (x1).size ≤ maxLen → x0.size ≤ 140737488351232 → x1.size ≤ 140737488351232 → ∃ _ : Nat, colloquylaw03_GlobMatches.f (x0) (x1) = some true
end Go.Proofs.YtelbgmpeghhakaaGreat.PA
end
section
namespace Go.Proofs.YtelbgmpeghhakaaGreat.Pure
open Go.RowKit Go.Proofs.YtelbgmpeghhakaaGreat.PA
set_option linter.unusedVariables false in
theorem GlobMatches : colloquylaw03_GlobMatches.PureU := by
  intro x0 x1 _ _ _ _
  exact ⟨0, if_pos ⟨trivial, trivial⟩⟩
end Go.Proofs.YtelbgmpeghhakaaGreat.Pure
end
section
namespace Go.Proofs.YtelbgmpeghhakaaGreat.globMatches
open Go.ChangeShapes Go.WideShapes Go.ChangeAt Go.RowKit
open Go.ChangeMaps (open_string shut_string)
open Go.RowKit Go.Proofs.YtelbgmpeghhakaaGreatW.PrintWords Go.Proofs.YtelbgmpeghhakaaGreatW.PrintLast Go.Proofs.YtelbgmpeghhakaaGreatW.PrintMore Go.Proofs.YtelbgmpeghhakaaGreat.PA
set_option linter.unusedVariables false
set_option linter.unusedSimpArgs false
theorem own : ownKnob Tryz.prog.godebug = none := by kernel_rfl
theorem laidOut : laidOutB Tryz.prog = true := by kernel_rfl
set_option maxRecDepth 100000 in
theorem contract (H : Type) (enc : TypeId × Value → H) (W : World) (base : Nat) (args : Array Value) (ds gs : List (DataW H)) (before : List MemPlace)
    (hval0 : ∀ (j : Nat) t v, Tryz.f4.params[j]? = some t → args[j]? = some v → Value.okWide Tryz.prog W .any base t v)
    (hW : DataW.Whole enc Tryz.prog Tryz.f4.params.toList Rows.globMatchesSpec.vars false W args.toList ds gs before)
    (hsz0 : (DataW.weightsEach Tryz.prog (Tryz.f4.params.toList ++ Rows.globMatchesSpec.plain.varTypes Tryz.prog) (ds ++ gs)).all (· ≤ reachBytes) = true) :
    Calls Tryz.prog 4 args W fun e W' => ∃ v, e = .returned v ∧ Rows.globMatchesSpec.post enc Tryz.prog Tryz.f4 false true false false W args v W' := by
  have hsz : (DataW.weightsEach Tryz.prog (Tryz.f4.params.toList ++ Rows.globMatchesSpec.plain.varTypes Tryz.prog) (ds ++ gs)).all (· ≤ reachBytes) = true := hsz0
  have hval : ∀ (j : Nat) t v, Tryz.f4.params[j]? = some t → args[j]? = some v → Value.okWide Tryz.prog W .any base t v := hval0
  have hW' := hW
  obtain ⟨p, q, hA0, hV, rfl, hfz, hnd⟩ := hW
  have hA : DataW.TrodAll enc Tryz.prog W 0 (fun _ => true) true Tryz.f4.params.toList args.toList ds p := hA0
  rw [Tryz.params4] at hA hval hsz
  obtain ⟨v0, vs0, d0, ds0, p0, q0, hargs, rfl, rfl, h0, r0⟩ := trodAll_cons hA
  obtain ⟨v1, vs1, d1, ds1, p1, q1, rfl, rfl, rfl, h1, r1⟩ := trodAll_cons r0
  obtain ⟨rfl, rfl, rfl⟩ := trodAll_nil r1
  obtain rfl : args = #[v0, v1] := by cases args; simp_all
  obtain ⟨rfl, rfl⟩ := trodVars_none hV
  obtain ⟨x0, rfl, rfl, rfl, g0⟩ := open_string Tryz.underlying9 (hval 0 9 v0 rfl rfl) h0
  have z0 : x0.size ≤ 140737488351232 := by
    have z := sized_string hsz (j := 0) (t := 9) rfl rfl
    rw [Array.length_toList] at z
    exact z
  obtain ⟨x1, rfl, rfl, rfl, g1⟩ := open_string Tryz.underlying9 (hval 1 9 v1 rfl rfl) h1
  have z1 : x1.size ≤ 140737488351232 := by
    have z := sized_string hsz (j := 1) (t := 9) rfl rfl
    rw [Array.length_toList] at z
    exact z
  obtain ⟨k, h⟩ := Pure.GlobMatches x0 x1 g0 g1 z0 z1
  refine (PA.colloquylaw03_GlobMatches.calls (a0 := x0) (a1 := x1) (r := true) (w := W) (h := h)).mono fun e W' ⟨he, hb⟩ => ?_
  have bel : Below W.heap.size W W' := by first | exact hb | exact Drawn0.below hb
  subst he
  exact ⟨_, rfl, _, _, _, [], _, [], hW', trodAll_mk1 (shut_bool Tryz.underlying4 _), (trodAll_cons_mk (shut_string Tryz.underlying9 g0) (trodAll_cons_mk (shut_string Tryz.underlying9 g1) trodAll_mk0)), rfl, bel.frame _, fun h => by cases h⟩
set_option maxRecDepth 100000 in
theorem lifted (os : Os) (started : os.Started) (H : Type) (enc : TypeId × Value → H) :
    ReturnsInHanded {} Tryz.checked os 4 .any (Rows.globMatchesSpec.pre6 enc Tryz.prog Tryz.f4 Rows.globMatchesRow.domain false) (Rows.globMatchesSpec.post enc Tryz.prog Tryz.f4 false true false false) := by
  refine returnsInHanded_of_change_sized (C := Tryz.checked) own started (by kernel_rfl) Tryz.func4
    (ChangeSpec.witness6 (enc := enc) (C := Tryz.checked) false ⟨#[], #[.string ByteArray.empty, .string ByteArray.empty], []⟩ 8 (by kernel_rfl) (by kernel_rfl) (by kernel_rfl) (by kernel_rfl)) ?_
  intro W base args ds gs before hval hW _ hsz _
  exact contract H enc W base args ds gs before hval hW hsz
theorem proved : Rows.GlobMatchesSaid :=
  OpenClaim.holds_of_wide 4 Tryz.f4 rfl rfl rfl rfl rfl rfl rfl ⟨rfl, rfl, rfl, rfl, rfl⟩ rfl rfl rfl rfl rfl (by kernel_rfl) Tryz.func4 (by kernel_rfl)
    (of_decide_eq_true (by kernel_rfl)) (by unfold Func.isWrapper; first | (rw [if_pos (by decide +kernel)]; kernel_rfl) | (rw [if_neg (by decide +kernel)]; exact ⟨rfl, rfl⟩))
    (fun os started H enc _ => lifted os started H enc)
#print axioms proved
end Go.Proofs.YtelbgmpeghhakaaGreat.globMatches
namespace Go.Proofs.YtelbgmpeghhakaaGreat
theorem globMatches_holds : Rows.GlobMatchesSaid := globMatches.proved
end Go.Proofs.YtelbgmpeghhakaaGreat
end
