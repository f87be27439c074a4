/- What this claim uses of this session's own texts, put together by a program: GRef1 HRef4 GRef3 HPlays HRj GRj0 GRj1 GRj2 GRj3 HRj2. -/
import Derived.Test.YtkdahjnmldeklaaGreatKJournalPlays1
import Derived.Test.YtkdahjnmldeklaaGreatProg
import Derived.Test.YtkdahjnmldeklaaGreatRows
namespace Go.Proofs.YtkdahjnmldeklaaGreat.PA
open Go.RowKit Go.Proofs.YtkdahjnmldeklaaGreatW.PrintWords Go.Proofs.YtkdahjnmldeklaaGreatW.PrintLast Go.Proofs.YtkdahjnmldeklaaGreatW.PrintMore
set_option linter.unusedVariables false
set_option linter.unusedSimpArgs false
set_option maxRecDepth 100000
set_option maxHeartbeats 8000000
namespace GRef1_
def kdOK (kd : Int) : Prop := kd = 1 ∨ kd = 2 ∨ kd = 3 ∨ kd = 5
theorem do_calls (P : Nat → Prop) (Af : Option Addr) (cf : Nat) (files : List S38) (d : PD) (kd : Int) (hkd : kdOK kd) (nm dest : ByteArray) (n : Int) (Ay : Option Addr) (cy : Nat) (y : List Int) (w : World) (hP : ∀ k, P k → k < w.heap.size) (hF : Kd.F k38 w P Af files.length files) (hcf : files.length ≤ cf) (hA : ∀ ad, Af = some ad → P ad.block) (hlf : files.length ≤ 1000000) (hd : files.map ofS = d.fs) (hw : wfD d) (hy : Kd.C (Kd.int .u8) w Ay y.length y) (hcy : y.length ≤ cy) (hroom : d.used + y.length ≤ 140737488355327) :
    Calls Tryz.prog 38 #[.agg #[.slice Af files.length cf, .int .i64 d.most, .int .i64 d.fuse, .bool d.down], .agg #[.int .i64 kd, .string nm, .string dest, .int .i64 n, .slice Ay y.length cy]] w fun e w' => DoPost P w w' e (doesD kd nm dest n y d) := by
 have hkd1 : 1 ≤ kd ∧ kd ≤ 6 := by unfold kdOK at hkd; omega
 have hus : (((files.map fun x => x.f1.length).sum : Nat) : Int) = d.used := by rw [← used_of, hd, hw.used]; rfl
 have hm0 := hw.most
 have hu0 := hw.used
 have hfu := hw.fuse
 refine gw_start (N := 186) (vs := [.agg #[.slice Af files.length cf, J d.most, J d.fuse, .bool d.down], .agg #[J kd, .string nm, .string dest, J n, .slice Ay y.length cy]]) Tryz.func38 rfl rfl (by simp) fun a HF HO => ?_
 replace HO : Own w w [] := HO
 rcases find3 nm z38 files with ⟨hfi, hgd⟩ | ⟨i0, hfi, hi0, hgd⟩
 ·
  rw [hd] at hgd
  refine gR fun K1 hK1 => ?_
  refine gw_new HF HO (want_none rfl) rfl (by decide) (op_box rfl (HF.ev rfl)) ?_
  intro g2 _ w4 H5 O6; clear HF HO
  have O7 : Own w w4 [Bk g2 [.slice Af files.length cf, J d.most, J d.fuse, .bool d.down] 34] := O6
  clear O6
  refine gw_new H5 O7 (want_none rfl) rfl (by decide) (op_box rfl (H5.ev rfl)) ?_
  intro g8 _ w10 H11 O12; clear H5 O7
  have O13 : Own w w10 [Bk g8 [J kd, .string nm, .string dest, J n, .slice Ay y.length cy] 93, Bk g2 [.slice Af files.length cf, J d.most, J d.fuse, .bool d.down] 34] := O12
  clear O12
  refine gw_new H11 O13 (want_none rfl) rfl (by decide) (op_alloc gwzer34 rfl) ?_
  intro g14 _ w16 H17 O18; clear H11 O13
  have O19 : Own w w16 [Bk g14 [.slice none 0 0, J 0, J 0, .bool false] 34, Bk g8 [J kd, .string nm, .string dest, J n, .slice Ay y.length cy] 93, Bk g2 [.slice Af files.length cf, J d.most, J d.fuse, .bool d.down] 34] := O18
  clear O18
  refine Vc H17 fun _ H21 => ?_
  refine gE hK1 ?_
  refine gw_seq fun K22 hK22 => ?_
  refine gR fun K23 hK23 => ?_
  refine Vf H21 (gwfld34_3 _ _) fun _ H25 => ?_
  refine Vl H25 gwagg4 (O19.get 2 rfl) fun _ H27 => ?_
  refine gE hK23 ?_
  clear H17 H21 H25
  refine gw_cond H27 rfl (fun hb28 => ?_) (fun hb28 => ?_)
  ·
   have H29 := H27.subst_ (d := 12) (b := true) rfl hb28
   clear H27
   (try simp only [Bool.not_eq_true] at hb28)
   have hdn := hb28
   refine gR fun K30 hK30 => ?_
   refine V H29 (op_loadn gwagg34 gwsiz34 rfl (H29.ev rfl) (O19.get 2 rfl) rfl rfl) fun _ H32 => ?_
   clear H29
   refine gw_setn 0 H32 O19 rfl (want_none rfl) rfl (op_storen gwsiz34 rfl (H32.ev rfl) (H32.ev rfl) (O19.get 0 rfl) rfl (by simp) (by simp [Value.oneCell'])) ?_
   intro _ w35 H34 O36; clear H32 O19
   refine Vc H34 fun _ H38 => ?_
   refine gE hK30 ?_
   refine wp_ret ?_
   clear H34
   refine gw_thr ?_
   refine gw_rets2 H38 rfl (rv_celln H38 rfl gwagg34 gwsiz34 (O36.get 0 rfl) rfl) (rv_tmp H38 rfl) ?_
   exact do_same hP (does_down hdn) hd hF hcf hA O36.below
  have H39 := H27.subst_ (d := 12) (b := false) rfl hb28
  clear H27
  (try simp only [Bool.not_eq_true] at hb28)
  have hdn : d.down = false := by simpa using hb28
  refine gS hK22 ?_
  refine gR fun K40 hK40 => ?_
  refine V H39 (op_loadn gwagg34 gwsiz34 rfl (H39.ev rfl) (O19.get 2 rfl) rfl rfl) fun _ H42 => ?_
  refine Vf H42 (gwfld93_1 _ _) fun _ H44 => ?_
  refine Vl H44 gwagg9 (O19.get 1 rfl) fun _ H46 => ?_
  clear H39 H42 H44
  refine Wk H46 Tryz.func60 rfl (ar_cons (H46.ev rfl) (ar_cons (H46.ev rfl) ar_nil)) (find_ref Af cf files d.most d.fuse d.down nm _ (Kd.C_below (Kd.F_now hF) O19.below) hcf hlf) ?_
  rintro e47 w48 ⟨rfl, hb49⟩
  refine ⟨_, rfl, fun _ H51 => ?_⟩
  have O52 := O19.after hb49
  clear H46 O19 hb49
  have H54 := H51.conv (v' := J (-1)) (congrArg (Value.int .i64) hfi)
  clear H51
  refine Va H54 fun _ H56 => ?_
  refine gE hK40 ?_
  refine gw_seq fun K57 hK57 => ?_
  refine gR fun K58 hK58 => ?_
  refine Vf H56 (gwfld93_0 _ _) fun _ H60 => ?_
  refine Vl H60 gwagg3 (O52.get 1 rfl) fun _ H62 => ?_
  refine V H62 (op_eqi rfl (H62.ev rfl) (ev_c _ _)) fun _ H64 => ?_
  refine Vm H64 fun _ H66 => ?_
  clear H54 H56 H60 H62 H64
  refine gw_evG H66 rfl rfl rfl rfl (on_t _) rfl (by decide) (fun h_ => (op_field (gwfld93_1 _ _) rfl (H66.ev rfl))) ?_
  intro _ H68; clear H66
  refine gw_evG H68 rfl rfl rfl rfl (on_t _) rfl (by decide) (fun h_ => (op_load1 gwagg9 rfl (ev_gv (H68.ev rfl) h_) (blk_at (O52.get 1 rfl) rfl))) ?_
  intro _ H70; clear H68
  refine gw_callG H70 rfl rfl rfl rfl (on_t _) rfl (by decide) (fun h_ => (op_callL Tryz.func61 (by kernel_rfl) rfl rfl (ar_cons (ev_gv (H70.ev rfl) h_) ar_nil))) (fun h_ => named_ref nm _) ?_
  intro _ w73 hb74 H72
  have O75 := O52.after hb74; clear H70 O52 hb74
  refine gw_evG H72 rfl rfl rfl rfl (on_t _) rfl (by decide) (fun h_ => (op_not rfl (ev_gv (H72.ev rfl) h_))) ?_
  intro _ H77; clear H72
  refine V H77 (op_pick_and rfl (H77.ev rfl) (fun hp_ => (ev_gv (H77.ev rfl) hp_)) (ev_c _ _)) fun _ H79 => ?_
  refine Vm H79 fun _ H81 => ?_
  clear H77 H79
  refine gw_evG H81 rfl rfl rfl rfl (on_f _) rfl (by decide) (fun h_ => (op_field (gwfld93_0 _ _) rfl (H81.ev rfl))) ?_
  intro _ H83; clear H81
  refine gw_evG H83 rfl rfl rfl rfl (on_f _) rfl (by decide) (fun h_ => (op_load1 gwagg3 rfl (ev_gv (H83.ev rfl) h_) (blk_at (O75.get 1 rfl) rfl))) ?_
  intro _ H85; clear H83
  refine gw_evG H85 rfl rfl rfl rfl (on_f _) rfl (by decide) (fun h_ => (op_eqi rfl (ev_gv (H85.ev rfl) h_) (ev_c _ _))) ?_
  intro _ H87; clear H85
  refine gw_evG H87 rfl rfl rfl rfl (on_f _) rfl (by decide) (fun h_ => (op_move rfl (ev_gv (H87.ev rfl) h_))) ?_
  intro _ H89; clear H87
  refine gw_evG H89 rfl rfl rfl rfl (on_gt _ _) rfl (by decide) (fun h_ => (op_field (gwfld93_2 _ _) rfl (H89.ev rfl))) ?_
  intro _ H91; clear H89
  refine gw_evG H91 rfl rfl rfl rfl (on_gt _ _) rfl (by decide) (fun h_ => (op_load1 gwagg9 rfl (ev_gv (H91.ev rfl) (andi (and1 h_) (and2 h_))) (blk_at (O75.get 1 rfl) rfl))) ?_
  intro _ H93; clear H91
  refine gw_callG H93 rfl rfl rfl rfl (on_gt _ _) rfl (by decide) (fun h_ => (op_callL Tryz.func61 (by kernel_rfl) rfl rfl (ar_cons (ev_gv (H93.ev rfl) (andi (and1 h_) (and2 h_))) ar_nil))) (fun h_ => named_ref dest _) ?_
  intro _ w96 hb97 H95
  have O98 := O75.after hb97; clear H93 O75 hb97
  refine gw_evG H95 rfl rfl rfl rfl (on_gt _ _) rfl (by decide) (fun h_ => (op_not rfl (ev_gv (H95.ev rfl) (andi (and1 h_) (and2 h_))))) ?_
  intro _ H100; clear H95
  refine gw_evG H100 rfl rfl rfl rfl (on_f _) rfl (by decide) (fun h_ => (op_pick_and rfl (ev_gv (H100.ev rfl) h_) (fun hp_ => (ev_gv (H100.ev rfl) (andi h_ hp_))) (ev_c _ _))) ?_
  intro _ H102; clear H100
  refine V H102 (op_pick_or rfl (H102.ev rfl) (ev_c _ _) (fun hp_ => (ev_gv (H102.ev rfl) (not_t hp_)))) fun _ H104 => ?_
  refine gE hK58 ?_
  clear H102
  refine gw_cond H104 rfl (fun hb105 => ?_) (fun hb105 => ?_)
  ·
   have H106 := H104.subst_ (d := 37) (b := true) rfl hb105
   clear H104
   (try simp only [Bool.and_eq_true, Bool.and_eq_false_iff, Bool.not_and, Bool.or_eq_true, Bool.or_eq_false_iff, Bool.not_or, Bool.not_not, Bool.not_eq_true', Bool.not_eq_false', Bool.not_eq_true, Bool.not_eq_false, decide_eq_true_eq, decide_eq_false_iff_not] at hb105)
   have h37 := hb105
   refine gR fun K107 hK107 => ?_
   refine V H106 (op_loadn gwagg34 gwsiz34 rfl (H106.ev rfl) (O98.get 2 rfl) rfl rfl) fun _ H109 => ?_
   clear H106
   refine gw_setn 0 H109 O98 rfl (want_none rfl) rfl (op_storen gwsiz34 rfl (H109.ev rfl) (H109.ev rfl) (O98.get 0 rfl) rfl (by simp) (by simp [Value.oneCell'])) ?_
   intro _ w112 H111 O113; clear H109 O98
   refine Vc H111 fun _ H115 => ?_
   refine gE hK107 ?_
   refine wp_ret ?_
   clear H111
   refine gw_thr ?_
   refine gw_rets2 H115 rfl (rv_celln H115 rfl gwagg34 gwsiz34 (O113.get 0 rfl) rfl) (rv_tmp H115 rfl) ?_
   exact do_same hP (does_bad hdn h37) hd hF hcf hA O113.below
  have H116 := H104.subst_ (d := 37) (b := false) rfl hb105
  clear H104
  (try simp only [Bool.and_eq_true, Bool.and_eq_false_iff, Bool.not_and, Bool.or_eq_true, Bool.or_eq_false_iff, Bool.not_or, Bool.not_not, Bool.not_eq_true', Bool.not_eq_false', Bool.not_eq_true, Bool.not_eq_false, decide_eq_true_eq, decide_eq_false_iff_not] at hb105)
  have h37 := hb105
  have hn1 : kd = 1 → namedB nm = true := fun h_ => by simp only [h_] at h37; simpa using h37
  have hn4 : kd = 4 → namedB dest = true := fun h_ => by simp only [h_] at h37; simpa using h37
  refine gS hK57 ?_
  refine gw_seq fun K117 hK117 => ?_
  refine gR fun K118 hK118 => ?_
  refine Vf H116 (gwfld93_0 _ _) fun _ H120 => ?_
  refine Vl H120 gwagg3 (O98.get 1 rfl) fun _ H122 => ?_
  refine V H122 (op_eqi rfl (H122.ev rfl) (ev_c _ _)) fun _ H124 => ?_
  refine Vm H124 fun _ H126 => ?_
  clear H116 H120 H122 H124
  refine gw_evG H126 rfl rfl rfl rfl (on_t _) rfl (by decide) (fun h_ => (op_move rfl (H126.ev rfl))) ?_
  intro _ H128; clear H126
  refine gw_evG H128 rfl rfl rfl rfl (on_t _) rfl (by decide) (fun h_ => (op_geq rfl (ev_gv (H128.ev rfl) h_) (ev_c _ _))) ?_
  intro _ H130; clear H128
  have H131 := H130.litG (b := false) (fun h_ => by decide)
  clear H130
  refine V H131 (op_pick_and rfl (H131.ev rfl) (fun hp_ => (ev_gv (H131.ev rfl) hp_)) (ev_c _ _)) fun _ H133 => ?_
  clear H131
  have H134 := H133.lit (b := false) (by simp)
  clear H133
  refine gE hK118 ?_
  refine gw_cond H134 rfl (fun hb135 => ?_) (fun hb135 => ?_)
  ·
   cases hb135
  refine gS hK117 ?_
  refine gw_seq fun K136 hK136 => ?_
  refine gR fun K137 hK137 => ?_
  refine Vf H134 (gwfld93_0 _ _) fun _ H139 => ?_
  refine Vl H139 gwagg3 (O98.get 1 rfl) fun _ H141 => ?_
  refine V H141 (op_nei rfl (H141.ev rfl) (ev_c _ _)) fun _ H143 => ?_
  refine Vm H143 fun _ H145 => ?_
  clear H134 H139 H141 H143
  refine gw_evG H145 rfl rfl rfl rfl (on_t _) rfl (by decide) (fun h_ => (op_move rfl (H145.ev rfl))) ?_
  intro _ H147; clear H145
  refine gw_evG H147 rfl rfl rfl rfl (on_t _) rfl (by decide) (fun h_ => (op_lss rfl (ev_gv (H147.ev rfl) h_) (ev_c _ _))) ?_
  intro _ H149; clear H147
  have H150 := H149.litG (b := true) (fun h_ => by decide)
  clear H149
  refine V H150 (op_pick_and rfl (H150.ev rfl) (fun hp_ => (ev_gv (H150.ev rfl) hp_)) (ev_c _ _)) fun _ H152 => ?_
  refine gE hK137 ?_
  clear H150
  refine gw_cond H152 rfl (fun hb153 => ?_) (fun hb153 => ?_)
  ·
   have H154 := H152.subst_ (d := 53) (b := true) rfl hb153
   clear H152
   (try simp only [Bool.and_eq_true, Bool.and_eq_false_iff, decide_eq_true_eq, decide_eq_false_iff_not, ne_eq, Decidable.not_not] at hb153)
   have hk1 : ¬ kd = 1 := by simpa using hb153
   refine gR fun K155 hK155 => ?_
   refine V H154 (op_loadn gwagg34 gwsiz34 rfl (H154.ev rfl) (O98.get 2 rfl) rfl rfl) fun _ H157 => ?_
   clear H154
   refine gw_setn 0 H157 O98 rfl (want_none rfl) rfl (op_storen gwsiz34 rfl (H157.ev rfl) (H157.ev rfl) (O98.get 0 rfl) rfl (by simp) (by simp [Value.oneCell'])) ?_
   intro _ w160 H159 O161; clear H157 O98
   refine Vc H159 fun _ H163 => ?_
   refine gE hK155 ?_
   refine wp_ret ?_
   clear H159
   refine gw_thr ?_
   refine gw_rets2 H163 rfl (rv_celln H163 rfl gwagg34 gwsiz34 (O161.get 0 rfl) rfl) (rv_tmp H163 rfl) ?_
   exact do_same hP (does_none hdn (by omega) hn4 hgd) hd hF hcf hA O161.below
  have H164 := H152.subst_ (d := 53) (b := false) rfl hb153
  clear H152
  (try simp only [Bool.and_eq_true, Bool.and_eq_false_iff, decide_eq_true_eq, decide_eq_false_iff_not, ne_eq, Decidable.not_not] at hb153)
  have hk1 : kd = 1 := by simpa using hb153
  refine gS hK136 ?_
  refine gR fun K165 hK165 => ?_
  refine Vf H164 (gwfld93_1 _ _) fun _ H167 => ?_
  refine Vl H167 gwagg9 (O98.get 1 rfl) fun _ H169 => ?_
  refine V H169 (op_build (cells := #[.string nm, .slice none 0 0, J 0]) rfl (pt_cons (H169.ev rfl) pt_nil) (by kernel_rfl)) fun _ H171 => ?_
  clear H164 H167 H169
  refine gw_new H171 O98 (want_none rfl) rfl (by decide) (op_alloc gwzer38 rfl) ?_
  intro g172 _ w174 H175 O176; clear H171 O98
  have O177 : Own w w174 [Bk g172 [.string (⟨#[]⟩ : ByteArray), .slice none 0 0, J 0] 38, Bk g14 [.slice none 0 0, J 0, J 0, .bool false] 34, Bk g8 [J kd, .string nm, .string dest, J n, .slice Ay y.length cy] 93, Bk g2 [.slice Af files.length cf, J d.most, J d.fuse, .bool d.down] 34] := O176
  clear O176
  refine gw_setn 0 H175 O177 rfl (want_none rfl) rfl (op_storen gwsiz38 rfl (H175.ev rfl) (H175.ev rfl) (O177.get 0 rfl) rfl (by simp) (by simp [Value.oneCell'])) ?_
  intro _ w180 H179 O181; clear H175 O177
  refine gE hK165 ?_
  refine gw_seq fun K182 hK182 => ?_
  refine gR fun K183 hK183 => ?_
  refine Vm H179 fun _ H185 => ?_
  refine V H185 (op_geq rfl (H185.ev rfl) (ev_c _ _)) fun _ H187 => ?_
  clear H179 H185
  have H188 := H187.lit (b := false) (by decide)
  clear H187
  refine gE hK183 ?_
  refine gw_cond H188 rfl (fun hb189 => ?_) (fun hb189 => ?_)
  ·
   cases hb189
  refine gS hK182 ?_
  refine gw_seq fun K190 hK190 => ?_
  refine gR fun K191 hK191 => ?_
  refine Vf H188 (gwfld93_0 _ _) fun _ H193 => ?_
  refine Vl H193 gwagg3 (O181.get 2 rfl) fun _ H195 => ?_
  refine V H195 (op_eqi rfl (H195.ev rfl) (ev_c _ _)) fun _ H197 => ?_
  refine Vm H197 fun _ H199 => ?_
  clear H188 H193 H195 H197
  refine gw_evG H199 rfl rfl rfl rfl (on_t _) rfl (by decide) (fun h_ => (op_field (gwfld93_3 _ _) rfl (H199.ev rfl))) ?_
  intro _ H201; clear H199
  refine gw_evG H201 rfl rfl rfl rfl (on_t _) rfl (by decide) (fun h_ => (op_load1 gwagg3 rfl (ev_gv (H201.ev rfl) h_) (blk_at (O181.get 2 rfl) rfl))) ?_
  intro _ H203; clear H201
  refine gw_evG H203 rfl rfl rfl rfl (on_t _) rfl (by decide) (fun h_ => (op_lss rfl (ev_gv (H203.ev rfl) h_) (ev_c _ _))) ?_
  intro _ H205; clear H203
  refine gw_evG H205 rfl rfl rfl rfl (on_t _) rfl (by decide) (fun h_ => (op_move rfl (ev_gv (H205.ev rfl) h_))) ?_
  intro _ H207; clear H205
  refine gw_evG H207 rfl rfl rfl rfl (on_gf _ _) rfl (by decide) (fun h_ => (op_field (gwfld93_3 _ _) rfl (H207.ev rfl))) ?_
  intro _ H209; clear H207
  refine gw_evG H209 rfl rfl rfl rfl (on_gf _ _) rfl (by decide) (fun h_ => (op_load1 gwagg3 rfl (ev_gv (H209.ev rfl) (andi (and1 h_) (and2 h_))) (blk_at (O181.get 2 rfl) rfl))) ?_
  intro _ H211; clear H209
  refine gw_evG H211 rfl rfl rfl rfl (on_gf _ _) rfl (by decide) (fun h_ => (op_field (gwfld38_1 _ _) rfl (H211.ev rfl))) ?_
  intro _ H213; clear H211
  refine gw_evG H213 rfl rfl rfl rfl (on_gf _ _) rfl (by decide) (fun h_ => (op_load1 gwagg22 rfl (ev_gv (H213.ev rfl) (andi (and1 h_) (and2 h_))) (blk_at (O181.get 0 rfl) rfl))) ?_
  intro _ H215; clear H213
  refine gw_evG H215 rfl rfl rfl rfl (on_gf _ _) rfl (by decide) (fun h_ => (op_len Tryz.underlying22 rfl (ev_gv (H215.ev rfl) (andi (and1 h_) (and2 h_))))) ?_
  intro _ H217; clear H215
  refine gw_evG H217 rfl rfl rfl rfl (on_gf _ _) rfl (by decide) (fun h_ => (op_gtr rfl (ev_gv (H217.ev rfl) (andi (and1 h_) (and2 h_))) (ev_gv (H217.ev rfl) (andi (and1 h_) (and2 h_))))) ?_
  intro _ H219; clear H217
  refine gw_evG H219 rfl rfl rfl rfl (on_t _) rfl (by decide) (fun h_ => (op_pick_or rfl (ev_gv (H219.ev rfl) h_) (ev_c _ _) (fun hp_ => (ev_gv (H219.ev rfl) (andi h_ (not_t hp_)))))) ?_
  intro _ H221; clear H219
  refine V H221 (op_pick_and rfl (H221.ev rfl) (fun hp_ => (ev_gv (H221.ev rfl) hp_)) (ev_c _ _)) fun _ H223 => ?_
  refine gE hK191 ?_
  clear H221
  refine gw_cond H223 rfl (fun hb224 => ?_) (fun hb224 => ?_)
  ·
   have H225 := H223.subst_ (d := 80) (b := true) rfl hb224
   clear H223
   (try simp only [Bool.and_eq_true, Bool.and_eq_false_iff, Bool.or_eq_true, Bool.or_eq_false_iff, decide_eq_true_eq, decide_eq_false_iff_not, Int.not_lt] at hb224)
   exfalso; omega
  have H226 := H223.subst_ (d := 80) (b := false) rfl hb224
  clear H223
  (try simp only [Bool.and_eq_true, Bool.and_eq_false_iff, Bool.or_eq_true, Bool.or_eq_false_iff, decide_eq_true_eq, decide_eq_false_iff_not, Int.not_lt] at hb224)
  have h80 := hb224
  refine gS hK190 ?_
  refine gw_seq fun K227 hK227 => ?_
  refine gw_seq fun K228 hK228 => ?_
  refine gw_drawB O181 (by kernel_rfl) (by kernel_rfl) fun w229 O230 => ?_
  clear O181
  refine Vn H226 (op_field (gwfld93_0 _ _) rfl (H226.ev rfl)) fun _ H232 => ?_
  refine Vq H232 (fun wq hq => have HO := O230.after hq; op_load1 gwagg3 rfl (H232.ev rfl) (blk_at (HO.get 2 rfl) rfl)) fun _ H234 => ?_
  refine Vn H234 (op_eqi rfl (H234.ev rfl) (ev_c _ _)) fun _ H236 => ?_
  refine Vn H236 (op_move rfl (H236.ev rfl)) fun _ H238 => ?_
  clear H226 H232 H234 H236
  refine gq_evG H238 rfl rfl rfl rfl (on_t _) rfl (by decide) (fun h_ wq hq => have HO := O230.after hq; (op_field (gwfld93_4 _ _) rfl (H238.ev rfl))) ?_
  intro _ H240; clear H238
  refine gq_evG H240 rfl rfl rfl rfl (on_t _) rfl (by decide) (fun h_ wq hq => have HO := O230.after hq; (op_load1 gwagg22 rfl (ev_gv (H240.ev rfl) h_) (blk_at (HO.get 2 rfl) rfl))) ?_
  intro _ H242; clear H240
  refine gq_evG H242 rfl rfl rfl rfl (on_t _) rfl (by decide) (fun h_ wq hq => have HO := O230.after hq; (op_len Tryz.underlying22 rfl (ev_gv (H242.ev rfl) h_))) ?_
  intro _ H244; clear H242
  refine gq_evG H244 rfl rfl rfl rfl (on_t _) rfl (by decide) (fun h_ wq hq => have HO := O230.after hq; (op_field (gwfld34_1 _ _) rfl (H244.ev rfl))) ?_
  intro _ H246; clear H244
  refine gq_evG H246 rfl rfl rfl rfl (on_t _) rfl (by decide) (fun h_ wq hq => have HO := O230.after hq; (op_load1 gwagg3 rfl (ev_gv (H246.ev rfl) h_) (blk_at (HO.get 3 rfl) rfl))) ?_
  intro _ H248; clear H246
  refine gq_evG H248 rfl rfl rfl rfl (on_t _) rfl (by decide) (fun h_ wq hq => have HO := O230.after hq; (op_loadn gwagg34 gwsiz34 rfl (H248.ev rfl) (HO.get 3 rfl) rfl rfl)) ?_
  intro _ H250; clear H248
  refine gq_callG H250 rfl rfl rfl rfl (on_t _) rfl (by decide) (fun h_ wq hq => have HO := O230.after hq; (op_callL Tryz.func62 (by kernel_rfl) rfl rfl (ar_cons (ev_gv (H250.ev rfl) h_) ar_nil))) (fun h_ wq hq => have HO := O230.after hq; (used_ref Af cf files d.most d.fuse d.down _ (Kd.C_below (Kd.F_now hF) HO.below) hcf hlf (by (try simp only [bxs_, ne_eq, bne_iff_ne, beq_iff_eq, bne_eq_false_iff_eq, beq_eq_false_iff_ne] at h_); omega)).mono fun e w' h => ⟨h.1, below_then hq h.2⟩) ?_
  intro _ H252; clear H250
  have H253 := H252.conv (v' := gv (decide (kd = 2)) (J d.used)) (congrArg (gv _) (congrArg (Value.int .i64) hus))
  clear H252
  refine gq_evG H253 rfl rfl rfl rfl (on_t _) rfl (by decide) (fun h_ wq hq => have HO := O230.after hq; (op_sub rfl (ev_gv (H253.ev rfl) h_) (ev_gv (H253.ev rfl) h_) (by (try simp only [bxs_, ne_eq, bne_iff_ne, beq_iff_eq, bne_eq_false_iff_eq, beq_eq_false_iff_ne] at h_); omega))) ?_
  intro _ H255; clear H253
  refine gq_evG H255 rfl rfl rfl rfl (on_t _) rfl (by decide) (fun h_ wq hq => have HO := O230.after hq; (op_gtr rfl (ev_gv (H255.ev rfl) h_) (ev_gv (H255.ev rfl) h_))) ?_
  intro _ H257; clear H255
  refine Vn H257 (op_pick_and rfl (H257.ev rfl) (fun hp_ => (ev_gv (H257.ev rfl) hp_)) (ev_c _ _)) fun _ H259 => ?_
  clear H257
  refine wpQuiet_nil ?_
  intro w260 hq
  have O261 := O230.after hq
  clear O230 hq
  refine gw_nx (hK228 _ _ ?_)
  refine gw_cond H259 rfl (fun hb262 => ?_) (fun hb262 => ?_)
  ·
   have H263 := H259.subst_ (d := 95) (b := true) rfl hb262
   clear H259
   (try simp only [Bool.and_eq_true, Bool.and_eq_false_iff, decide_eq_true_eq, decide_eq_false_iff_not, Int.not_lt] at hb262)
   exfalso; omega
  have H264 := H259.subst_ (d := 95) (b := false) rfl hb262
  clear H259
  (try simp only [Bool.and_eq_true, Bool.and_eq_false_iff, decide_eq_true_eq, decide_eq_false_iff_not, Int.not_lt] at hb262)
  have h95 := hb262
  refine gS hK227 ?_
  refine gw_joinS (fun a_ w_ => ∃ (fu : Int), Fr 186 a_ [(2, .pointer (some ⟨g2, 0, none⟩)), (3, .pointer (some ⟨g8, 0, none⟩)), (4, .pointer (some ⟨g14, 0, none⟩)), (7, .pointer (some ⟨g172, 0, none⟩))] ∧ Own w w_ [Bk g172 [.string nm, .slice none 0 0, J 0] 38, Bk g14 [.slice none 0 0, J 0, J 0, .bool false] 34, Bk g8 [J kd, .string nm, .string dest, J n, .slice Ay y.length cy] 93, Bk g2 [.slice Af files.length cf, J d.most, J fu, .bool d.down] 34] ∧ (fu = decF d.fuse ∧ d.fuse ≠ 1)) ?_ ?_
  ·
   refine gR fun K265 hK265 => ?_
   refine Vf H264 (gwfld34_2 _ _) fun _ H267 => ?_
   refine Vl H267 gwagg3 (O261.get 3 rfl) fun _ H269 => ?_
   refine V H269 (op_gtr rfl (H269.ev rfl) (ev_c _ _)) fun _ H271 => ?_
   refine gE hK265 ?_
   clear H264 H267 H269
   refine gw_cond H271 rfl (fun hb272 => ?_) (fun hb272 => ?_)
   ·
    have H273 := H271.subst_ (d := 99) (b := true) rfl hb272
    clear H271
    (try simp only [decide_eq_true_eq] at hb272)
    refine gR fun K274 hK274 => ?_
    refine Vf H273 (gwfld34_2 _ _) fun _ H276 => ?_
    refine Vl H276 gwagg3 (O261.get 3 rfl) fun _ H278 => ?_
    refine V H278 (op_sub rfl (H278.ev rfl) (ev_c _ _) (by omega)) fun _ H280 => ?_
    refine Vf H280 (gwfld34_2 _ _) fun _ H282 => ?_
    clear H273 H276 H278 H280
    refine gw_set 3 H282 O261 rfl (want_none rfl) rfl (op_store1 gwsiz3 rfl (H282.ev rfl) (H282.ev rfl) rfl (blk_at (O261.get 3 rfl) rfl) (blkf (O261.get 3 rfl))) ?_
    intro _ w285 H284 O286; clear H282 O261
    refine gE hK274 ?_
    refine gR fun K287 hK287 => ?_
    refine Vf H284 (gwfld34_2 _ _) fun _ H289 => ?_
    refine Vl H289 gwagg3 (O286.get 3 rfl) fun _ H291 => ?_
    refine V H291 (op_eqi rfl (H291.ev rfl) (ev_c _ _)) fun _ H293 => ?_
    refine gE hK287 ?_
    clear H284 H289 H291
    refine gw_cond H293 rfl (fun hb294 => ?_) (fun hb294 => ?_)
    ·
     have H295 := H293.subst_ (d := 106) (b := true) rfl hb294
     clear H293
     (try simp only [decide_eq_true_eq] at hb294)
     refine gR fun K296 hK296 => ?_
     refine Vf H295 (gwfld34_3 _ _) fun _ H298 => ?_
     clear H295
     refine gw_set 3 H298 O286 rfl (want_none rfl) rfl (op_store1 gwsiz4 rfl (H298.ev rfl) (ev_c _ _) rfl (blk_at (O286.get 3 rfl) rfl) (blkf (O286.get 3 rfl))) ?_
     intro _ w301 H300 O302; clear H298 O286
     refine gE hK296 ?_
     refine gR fun K303 hK303 => ?_
     refine V H300 (op_loadn gwagg34 gwsiz34 rfl (H300.ev rfl) (O302.get 3 rfl) rfl rfl) fun _ H305 => ?_
     clear H300
     refine gw_setn 1 H305 O302 rfl (want_none rfl) rfl (op_storen gwsiz34 rfl (H305.ev rfl) (H305.ev rfl) (O302.get 1 rfl) rfl (by simp) (by simp [Value.oneCell'])) ?_
     intro _ w308 H307 O309; clear H305 O302
     have O310 : Own w w308 [Bk g172 [.string nm, .slice none 0 0, J 0] 38, Bk g14 [.slice Af files.length cf, J d.most, J (d.fuse - 1), .bool true] 34, Bk g8 [J kd, .string nm, .string dest, J n, .slice Ay y.length cy] 93, Bk g2 [.slice Af files.length cf, J d.most, J (d.fuse - 1), .bool true] 34] := O309
     clear O309
     refine Vc H307 fun _ H312 => ?_
     refine gE hK303 ?_
     refine wp_ret ?_
     clear H307
     refine gw_thr ?_
     refine gw_rets2 H312 rfl (rv_celln H312 rfl gwagg34 gwsiz34 (O310.get 1 rfl) rfl) (rv_tmp H312 rfl) ?_
     rw [show d.fuse - 1 = 0 by omega]
     exact do_same (d2 := { d with fuse := 0, down := true }) hP ((does_go (f := ⟨nm, [], 0⟩) hdn (.inl ⟨by omega, hn1 (by omega), hgd⟩)).trans (step_off (by omega))) hd hF hcf hA O310.below
    have H313 := H293.subst_ (d := 106) (b := false) rfl hb294
    clear H293
    (try simp only [decide_eq_false_iff_not] at hb294)
    refine wp_skip ?_
    refine gw_nx ⟨(d.fuse - 1), (H313.pick (t := 2) rfl (H313.pick (t := 3) rfl (H313.pick (t := 4) rfl (H313.pick (t := 7) rfl H313.nil)))), O286.sel [0, 1, 2, 3] (by decide), ?_⟩
    exact ⟨by unfold decF; split <;> omega, by omega⟩
   have H314 := H271.subst_ (d := 99) (b := false) rfl hb272
   clear H271
   (try simp only [decide_eq_false_iff_not, Int.not_lt] at hb272)
   refine wp_skip ?_
   refine gw_nx ⟨d.fuse, (H314.pick (t := 2) rfl (H314.pick (t := 3) rfl (H314.pick (t := 4) rfl (H314.pick (t := 7) rfl H314.nil)))), O261.sel [0, 1, 2, 3] (by decide), ?_⟩
   exact ⟨by unfold decF; split <;> omega, by omega⟩
  rintro _ w316 ⟨fu, H317, O318, hfud⟩
  refine gw_seq fun K319 hK319 => ?_
  refine gR fun K320 hK320 => ?_
  refine Vf H317 (gwfld93_0 _ _) fun _ H322 => ?_
  refine Vl H322 gwagg3 (O318.get 2 rfl) fun _ H324 => ?_
  refine gE hK320 ?_
  clear H317 H322
  refine wp_block ?_
  refine gR fun K325 hK325 => ?_
  refine V H324 (op_eqi rfl (H324.ev rfl) (ev_c _ _)) fun _ H327 => ?_
  refine Va H327 fun _ H329 => ?_
  refine gE hK325 ?_
  clear H324 H327
  refine gw_cond H329 rfl (fun hb330 => ?_) (fun hb330 => ?_)
  ·
   have H331 := H329.subst_ (d := 111) (b := true) rfl hb330
   clear H329
   (try simp only [decide_eq_true_eq] at hb330)
   exfalso; omega
  have H332 := H329.subst_ (d := 111) (b := false) rfl hb330
  clear H329
  (try simp only [decide_eq_false_iff_not] at hb330)
  have hk2 := hb330
  refine gR fun K333 hK333 => ?_
  refine V H332 (op_eqi rfl (H332.ev rfl) (ev_c _ _)) fun _ H335 => ?_
  refine Va H335 fun _ H337 => ?_
  refine gE hK333 ?_
  clear H332 H335
  refine gw_cond H337 rfl (fun hb338 => ?_) (fun hb338 => ?_)
  ·
   have H339 := H337.subst_ (d := 146) (b := true) rfl hb338
   clear H337
   (try simp only [decide_eq_true_eq] at hb338)
   exfalso; omega
  have H340 := H337.subst_ (d := 146) (b := false) rfl hb338
  clear H337
  (try simp only [decide_eq_false_iff_not] at hb338)
  have hk3 := hb338
  refine gR fun K341 hK341 => ?_
  refine V H340 (op_eqi rfl (H340.ev rfl) (ev_c _ _)) fun _ H343 => ?_
  refine Va H343 fun _ H345 => ?_
  refine gE hK341 ?_
  clear H340 H343
  refine gw_cond H345 rfl (fun hb346 => ?_) (fun hb346 => ?_)
  ·
   have H347 := H345.subst_ (d := 152) (b := true) rfl hb346
   clear H345
   (try simp only [decide_eq_true_eq] at hb346)
   exfalso; omega
  have H348 := H345.subst_ (d := 152) (b := false) rfl hb346
  clear H345
  (try simp only [decide_eq_false_iff_not] at hb346)
  have hk4 := hb346
  refine gR fun K349 hK349 => ?_
  refine V H348 (op_eqi rfl (H348.ev rfl) (ev_c _ _)) fun _ H351 => ?_
  refine Va H351 fun _ H353 => ?_
  refine gE hK349 ?_
  clear H348 H351
  refine gw_cond H353 rfl (fun hb354 => ?_) (fun hb354 => ?_)
  ·
   have H355 := H353.subst_ (d := 161) (b := true) rfl hb354
   clear H353
   (try simp only [decide_eq_true_eq] at hb354)
   exfalso; omega
  have H356 := H353.subst_ (d := 161) (b := false) rfl hb354
  clear H353
  (try simp only [decide_eq_false_iff_not] at hb354)
  have hk5 := hb354
  refine gR fun K357 hK357 => ?_
  refine V H356 (op_eqi rfl (H356.ev rfl) (ev_c _ _)) fun _ H359 => ?_
  refine Va H359 fun _ H361 => ?_
  refine gE hK357 ?_
  clear H356 H359
  refine gw_cond H361 rfl (fun hb362 => ?_) (fun hb362 => ?_)
  ·
   have H363 := H361.subst_ (d := 177) (b := true) rfl hb362
   clear H361
   (try simp only [decide_eq_true_eq] at hb362)
   exfalso; omega
  have H364 := H361.subst_ (d := 177) (b := false) rfl hb362
  clear H361
  (try simp only [decide_eq_false_iff_not] at hb362)
  have hk6 := hb362
  refine wp_skip ?_
  refine gw_blk ?_
  refine gw_nx (hK319 _ _ ?_)
  refine gR fun K365 hK365 => ?_
  refine V H364 (op_loadn gwagg34 gwsiz34 rfl (H364.ev rfl) (O318.get 3 rfl) rfl rfl) fun _ H367 => ?_
  refine V H367 (op_loadn gwagg38 gwsiz38 rfl (H367.ev rfl) (O318.get 0 rfl) rfl rfl) fun _ H369 => ?_
  clear H364 H367
  have O373 := O318.void
  clear O318
  have O375 : Own w w316 [Chunk.void, Bk g172 [.string nm, .slice none 0 0, J 0] 38, Bk g14 [.slice none 0 0, J 0, J 0, .bool false] 34, Bk g8 [J kd, .string nm, .string dest, J n, .slice Ay y.length cy] 93, Bk g2 [.slice Af files.length cf, J d.most, J fu, .bool d.down] 34] := O373
  clear O373
  refine Wk H369 Tryz.func10 rfl (ar_cons (H369.ev rfl) (ar_cons (H369.ev rfl) ar_nil)) (with_own Af cf files d.most fu d.down nm none 0 ([] : List Int) 0 hP 0 rfl O375 (F_up O375 hP hF _) hcf (Kd.F_nil _ _ _) (Nat.le_refl _) hlf) ?_
  rintro e376 w377 ⟨A370, c371, S372, rfl, hb378⟩
  refine ⟨_, rfl, fun _ H380 => ?_⟩
  have O381 := O375.calls 0 rfl hb378
  clear H369 O375 hb378
  refine gw_setn 2 H380 O381 rfl (want_none rfl) rfl (op_storen gwsiz34 rfl (H380.ev rfl) (H380.ev rfl) (O381.get 2 rfl) rfl (by simp) (by simp [Value.oneCell'])) ?_
  intro _ w385 H384 O386; clear H380 O381
  refine Vc H384 fun _ H388 => ?_
  refine gE hK365 ?_
  refine wp_ret ?_
  clear H384
  refine gw_rets2 H388 rfl (rv_celln H388 rfl gwagg34 gwsiz34 (O386.get 2 rfl) rfl) (rv_tmp H388 rfl) ?_
  have ef_ : fu = decF d.fuse := hfud.1
  rw [ef_]
  exact do_new hP (((does_go (f := ⟨nm, [], 0⟩) hdn (.inl ⟨by omega, hn1 (by omega), hgd⟩)).trans (step_on (by omega) hfu.1)).trans (congrArg (·, (0 : Int)) (ks1 (by omega)))) (by rw [withL_ins _ _ (by rw [hd]; exact hw.ris), hd]; rfl) O386 0 rfl
 rw [hd] at hgd
 have hxn : (files.getD i0.toNat z38).f0 = nm := (getF_mem hgd).2
 have hsf : 0 ≤ (files.getD i0.toNat z38).f2 ∧ (files.getD i0.toNat z38).f2 ≤ (files.getD i0.toNat z38).f1.length := hw.sf _ (getF_mem hgd).1
 have hxl : ((files.getD i0.toNat z38).f1.length : Int) ≤ d.used := wf_len hw (getF_mem hgd).1
 refine gR fun K389 hK389 => ?_
 refine gw_new HF HO (want_none rfl) rfl (by decide) (op_box rfl (HF.ev rfl)) ?_
 intro g390 _ w392 H393 O394; clear HF HO
 have O395 : Own w w392 [Bk g390 [.slice Af files.length cf, J d.most, J d.fuse, .bool d.down] 34] := O394
 clear O394
 refine gw_new H393 O395 (want_none rfl) rfl (by decide) (op_box rfl (H393.ev rfl)) ?_
 intro g396 _ w398 H399 O400; clear H393 O395
 have O401 : Own w w398 [Bk g396 [J kd, .string nm, .string dest, J n, .slice Ay y.length cy] 93, Bk g390 [.slice Af files.length cf, J d.most, J d.fuse, .bool d.down] 34] := O400
 clear O400
 refine gw_new H399 O401 (want_none rfl) rfl (by decide) (op_alloc gwzer34 rfl) ?_
 intro g402 _ w404 H405 O406; clear H399 O401
 have O407 : Own w w404 [Bk g402 [.slice none 0 0, J 0, J 0, .bool false] 34, Bk g396 [J kd, .string nm, .string dest, J n, .slice Ay y.length cy] 93, Bk g390 [.slice Af files.length cf, J d.most, J d.fuse, .bool d.down] 34] := O406
 clear O406
 refine Vc H405 fun _ H409 => ?_
 refine gE hK389 ?_
 refine gw_seq fun K410 hK410 => ?_
 refine gR fun K411 hK411 => ?_
 refine Vf H409 (gwfld34_3 _ _) fun _ H413 => ?_
 refine Vl H413 gwagg4 (O407.get 2 rfl) fun _ H415 => ?_
 refine gE hK411 ?_
 clear H405 H409 H413
 refine gw_cond H415 rfl (fun hb416 => ?_) (fun hb416 => ?_)
 ·
  have H417 := H415.subst_ (d := 12) (b := true) rfl hb416
  clear H415
  (try simp only [Bool.not_eq_true] at hb416)
  have hdn := hb416
  refine gR fun K418 hK418 => ?_
  refine V H417 (op_loadn gwagg34 gwsiz34 rfl (H417.ev rfl) (O407.get 2 rfl) rfl rfl) fun _ H420 => ?_
  clear H417
  refine gw_setn 0 H420 O407 rfl (want_none rfl) rfl (op_storen gwsiz34 rfl (H420.ev rfl) (H420.ev rfl) (O407.get 0 rfl) rfl (by simp) (by simp [Value.oneCell'])) ?_
  intro _ w423 H422 O424; clear H420 O407
  refine Vc H422 fun _ H426 => ?_
  refine gE hK418 ?_
  refine wp_ret ?_
  clear H422
  refine gw_thr ?_
  refine gw_rets2 H426 rfl (rv_celln H426 rfl gwagg34 gwsiz34 (O424.get 0 rfl) rfl) (rv_tmp H426 rfl) ?_
  exact do_same hP (does_down hdn) hd hF hcf hA O424.below
 have H427 := H415.subst_ (d := 12) (b := false) rfl hb416
 clear H415
 (try simp only [Bool.not_eq_true] at hb416)
 have hdn : d.down = false := by simpa using hb416
 refine gS hK410 ?_
 refine gR fun K428 hK428 => ?_
 refine V H427 (op_loadn gwagg34 gwsiz34 rfl (H427.ev rfl) (O407.get 2 rfl) rfl rfl) fun _ H430 => ?_
 refine Vf H430 (gwfld93_1 _ _) fun _ H432 => ?_
 refine Vl H432 gwagg9 (O407.get 1 rfl) fun _ H434 => ?_
 clear H427 H430 H432
 refine Wk H434 Tryz.func60 rfl (ar_cons (H434.ev rfl) (ar_cons (H434.ev rfl) ar_nil)) (find_ref Af cf files d.most d.fuse d.down nm _ (Kd.C_below (Kd.F_now hF) O407.below) hcf hlf) ?_
 rintro e435 w436 ⟨rfl, hb437⟩
 refine ⟨_, rfl, fun _ H439 => ?_⟩
 have O440 := O407.after hb437
 clear H434 O407 hb437
 have H442 := H439.conv (v' := J i0) (congrArg (Value.int .i64) hfi)
 clear H439
 refine Va H442 fun _ H444 => ?_
 refine gE hK428 ?_
 refine gw_seq fun K445 hK445 => ?_
 refine gR fun K446 hK446 => ?_
 refine Vf H444 (gwfld93_0 _ _) fun _ H448 => ?_
 refine Vl H448 gwagg3 (O440.get 1 rfl) fun _ H450 => ?_
 refine V H450 (op_eqi rfl (H450.ev rfl) (ev_c _ _)) fun _ H452 => ?_
 refine Vm H452 fun _ H454 => ?_
 clear H442 H444 H448 H450 H452
 refine gw_evG H454 rfl rfl rfl rfl (on_t _) rfl (by decide) (fun h_ => (op_field (gwfld93_1 _ _) rfl (H454.ev rfl))) ?_
 intro _ H456; clear H454
 refine gw_evG H456 rfl rfl rfl rfl (on_t _) rfl (by decide) (fun h_ => (op_load1 gwagg9 rfl (ev_gv (H456.ev rfl) h_) (blk_at (O440.get 1 rfl) rfl))) ?_
 intro _ H458; clear H456
 refine gw_callG H458 rfl rfl rfl rfl (on_t _) rfl (by decide) (fun h_ => (op_callL Tryz.func61 (by kernel_rfl) rfl rfl (ar_cons (ev_gv (H458.ev rfl) h_) ar_nil))) (fun h_ => named_ref nm _) ?_
 intro _ w461 hb462 H460
 have O463 := O440.after hb462; clear H458 O440 hb462
 refine gw_evG H460 rfl rfl rfl rfl (on_t _) rfl (by decide) (fun h_ => (op_not rfl (ev_gv (H460.ev rfl) h_))) ?_
 intro _ H465; clear H460
 refine V H465 (op_pick_and rfl (H465.ev rfl) (fun hp_ => (ev_gv (H465.ev rfl) hp_)) (ev_c _ _)) fun _ H467 => ?_
 refine Vm H467 fun _ H469 => ?_
 clear H465 H467
 refine gw_evG H469 rfl rfl rfl rfl (on_f _) rfl (by decide) (fun h_ => (op_field (gwfld93_0 _ _) rfl (H469.ev rfl))) ?_
 intro _ H471; clear H469
 refine gw_evG H471 rfl rfl rfl rfl (on_f _) rfl (by decide) (fun h_ => (op_load1 gwagg3 rfl (ev_gv (H471.ev rfl) h_) (blk_at (O463.get 1 rfl) rfl))) ?_
 intro _ H473; clear H471
 refine gw_evG H473 rfl rfl rfl rfl (on_f _) rfl (by decide) (fun h_ => (op_eqi rfl (ev_gv (H473.ev rfl) h_) (ev_c _ _))) ?_
 intro _ H475; clear H473
 refine gw_evG H475 rfl rfl rfl rfl (on_f _) rfl (by decide) (fun h_ => (op_move rfl (ev_gv (H475.ev rfl) h_))) ?_
 intro _ H477; clear H475
 refine gw_evG H477 rfl rfl rfl rfl (on_gt _ _) rfl (by decide) (fun h_ => (op_field (gwfld93_2 _ _) rfl (H477.ev rfl))) ?_
 intro _ H479; clear H477
 refine gw_evG H479 rfl rfl rfl rfl (on_gt _ _) rfl (by decide) (fun h_ => (op_load1 gwagg9 rfl (ev_gv (H479.ev rfl) (andi (and1 h_) (and2 h_))) (blk_at (O463.get 1 rfl) rfl))) ?_
 intro _ H481; clear H479
 refine gw_callG H481 rfl rfl rfl rfl (on_gt _ _) rfl (by decide) (fun h_ => (op_callL Tryz.func61 (by kernel_rfl) rfl rfl (ar_cons (ev_gv (H481.ev rfl) (andi (and1 h_) (and2 h_))) ar_nil))) (fun h_ => named_ref dest _) ?_
 intro _ w484 hb485 H483
 have O486 := O463.after hb485; clear H481 O463 hb485
 refine gw_evG H483 rfl rfl rfl rfl (on_gt _ _) rfl (by decide) (fun h_ => (op_not rfl (ev_gv (H483.ev rfl) (andi (and1 h_) (and2 h_))))) ?_
 intro _ H488; clear H483
 refine gw_evG H488 rfl rfl rfl rfl (on_f _) rfl (by decide) (fun h_ => (op_pick_and rfl (ev_gv (H488.ev rfl) h_) (fun hp_ => (ev_gv (H488.ev rfl) (andi h_ hp_))) (ev_c _ _))) ?_
 intro _ H490; clear H488
 refine V H490 (op_pick_or rfl (H490.ev rfl) (ev_c _ _) (fun hp_ => (ev_gv (H490.ev rfl) (not_t hp_)))) fun _ H492 => ?_
 refine gE hK446 ?_
 clear H490
 refine gw_cond H492 rfl (fun hb493 => ?_) (fun hb493 => ?_)
 ·
  have H494 := H492.subst_ (d := 37) (b := true) rfl hb493
  clear H492
  (try simp only [Bool.and_eq_true, Bool.and_eq_false_iff, Bool.not_and, Bool.or_eq_true, Bool.or_eq_false_iff, Bool.not_or, Bool.not_not, Bool.not_eq_true', Bool.not_eq_false', Bool.not_eq_true, Bool.not_eq_false, decide_eq_true_eq, decide_eq_false_iff_not] at hb493)
  have h37 := hb493
  refine gR fun K495 hK495 => ?_
  refine V H494 (op_loadn gwagg34 gwsiz34 rfl (H494.ev rfl) (O486.get 2 rfl) rfl rfl) fun _ H497 => ?_
  clear H494
  refine gw_setn 0 H497 O486 rfl (want_none rfl) rfl (op_storen gwsiz34 rfl (H497.ev rfl) (H497.ev rfl) (O486.get 0 rfl) rfl (by simp) (by simp [Value.oneCell'])) ?_
  intro _ w500 H499 O501; clear H497 O486
  refine Vc H499 fun _ H503 => ?_
  refine gE hK495 ?_
  refine wp_ret ?_
  clear H499
  refine gw_thr ?_
  refine gw_rets2 H503 rfl (rv_celln H503 rfl gwagg34 gwsiz34 (O501.get 0 rfl) rfl) (rv_tmp H503 rfl) ?_
  exact do_same hP (does_bad hdn h37) hd hF hcf hA O501.below
 have H504 := H492.subst_ (d := 37) (b := false) rfl hb493
 clear H492
 (try simp only [Bool.and_eq_true, Bool.and_eq_false_iff, Bool.not_and, Bool.or_eq_true, Bool.or_eq_false_iff, Bool.not_or, Bool.not_not, Bool.not_eq_true', Bool.not_eq_false', Bool.not_eq_true, Bool.not_eq_false, decide_eq_true_eq, decide_eq_false_iff_not] at hb493)
 have h37 := hb493
 have hn1 : kd = 1 → namedB nm = true := fun h_ => by simp only [h_] at h37; simpa using h37
 have hn4 : kd = 4 → namedB dest = true := fun h_ => by simp only [h_] at h37; simpa using h37
 refine gS hK445 ?_
 refine gw_seq fun K505 hK505 => ?_
 refine gR fun K506 hK506 => ?_
 refine Vf H504 (gwfld93_0 _ _) fun _ H508 => ?_
 refine Vl H508 gwagg3 (O486.get 1 rfl) fun _ H510 => ?_
 refine V H510 (op_eqi rfl (H510.ev rfl) (ev_c _ _)) fun _ H512 => ?_
 refine Vm H512 fun _ H514 => ?_
 clear H504 H508 H510 H512
 refine gw_evG H514 rfl rfl rfl rfl (on_t _) rfl (by decide) (fun h_ => (op_move rfl (H514.ev rfl))) ?_
 intro _ H516; clear H514
 refine gw_evG H516 rfl rfl rfl rfl (on_t _) rfl (by decide) (fun h_ => (op_geq rfl (ev_gv (H516.ev rfl) h_) (ev_c _ _))) ?_
 intro _ H518; clear H516
 have H519 := H518.litG (b := true) (fun h_ => by rw [decide_eq_true_eq]; omega)
 clear H518
 refine V H519 (op_pick_and rfl (H519.ev rfl) (fun hp_ => (ev_gv (H519.ev rfl) hp_)) (ev_c _ _)) fun _ H521 => ?_
 refine gE hK506 ?_
 clear H519
 refine gw_cond H521 rfl (fun hb522 => ?_) (fun hb522 => ?_)
 ·
  have H523 := H521.subst_ (d := 45) (b := true) rfl hb522
  clear H521
  (try simp only [Bool.and_eq_true, Bool.and_eq_false_iff, decide_eq_true_eq, decide_eq_false_iff_not] at hb522)
  have hk1 : kd = 1 := by simpa using hb522
  refine gR fun K524 hK524 => ?_
  refine V H523 (op_loadn gwagg34 gwsiz34 rfl (H523.ev rfl) (O486.get 2 rfl) rfl rfl) fun _ H526 => ?_
  clear H523
  refine gw_setn 0 H526 O486 rfl (want_none rfl) rfl (op_storen gwsiz34 rfl (H526.ev rfl) (H526.ev rfl) (O486.get 0 rfl) rfl (by simp) (by simp [Value.oneCell'])) ?_
  intro _ w529 H528 O530; clear H526 O486
  refine Vc H528 fun _ H532 => ?_
  refine gE hK524 ?_
  refine wp_ret ?_
  clear H528
  refine gw_thr ?_
  refine gw_rets2 H532 rfl (rv_celln H532 rfl gwagg34 gwsiz34 (O530.get 0 rfl) rfl) (rv_tmp H532 rfl) ?_
  exact do_same hP ((does1 (by omega)).trans (create_twice hdn (hn1 (by omega)) hgd)) hd hF hcf hA O530.below
 have H533 := H521.subst_ (d := 45) (b := false) rfl hb522
 clear H521
 (try simp only [Bool.and_eq_true, Bool.and_eq_false_iff, decide_eq_true_eq, decide_eq_false_iff_not] at hb522)
 have hk1 : ¬ kd = 1 := by simpa using hb522
 refine gS hK505 ?_
 refine gw_seq fun K534 hK534 => ?_
 refine gR fun K535 hK535 => ?_
 refine Vf H533 (gwfld93_0 _ _) fun _ H537 => ?_
 refine Vl H537 gwagg3 (O486.get 1 rfl) fun _ H539 => ?_
 refine V H539 (op_nei rfl (H539.ev rfl) (ev_c _ _)) fun _ H541 => ?_
 refine Vm H541 fun _ H543 => ?_
 clear H533 H537 H539 H541
 refine gw_evG H543 rfl rfl rfl rfl (on_t _) rfl (by decide) (fun h_ => (op_move rfl (H543.ev rfl))) ?_
 intro _ H545; clear H543
 refine gw_evG H545 rfl rfl rfl rfl (on_t _) rfl (by decide) (fun h_ => (op_lss rfl (ev_gv (H545.ev rfl) h_) (ev_c _ _))) ?_
 intro _ H547; clear H545
 have H548 := H547.litG (b := false) (fun h_ => by rw [decide_eq_false_iff_not]; omega)
 clear H547
 refine V H548 (op_pick_and rfl (H548.ev rfl) (fun hp_ => (ev_gv (H548.ev rfl) hp_)) (ev_c _ _)) fun _ H550 => ?_
 clear H548
 have H551 := H550.lit (b := false) (by simp)
 clear H550
 refine gE hK535 ?_
 refine gw_cond H551 rfl (fun hb552 => ?_) (fun hb552 => ?_)
 ·
  cases hb552
 refine gS hK534 ?_
 refine gR fun K553 hK553 => ?_
 refine Vf H551 (gwfld93_1 _ _) fun _ H555 => ?_
 refine Vl H555 gwagg9 (O486.get 1 rfl) fun _ H557 => ?_
 refine V H557 (op_build (cells := #[.string nm, .slice none 0 0, J 0]) rfl (pt_cons (H557.ev rfl) pt_nil) (by kernel_rfl)) fun _ H559 => ?_
 clear H551 H555 H557
 refine gw_new H559 O486 (want_none rfl) rfl (by decide) (op_alloc gwzer38 rfl) ?_
 intro g560 _ w562 H563 O564; clear H559 O486
 have O565 : Own w w562 [Bk g560 [.string (⟨#[]⟩ : ByteArray), .slice none 0 0, J 0] 38, Bk g402 [.slice none 0 0, J 0, J 0, .bool false] 34, Bk g396 [J kd, .string nm, .string dest, J n, .slice Ay y.length cy] 93, Bk g390 [.slice Af files.length cf, J d.most, J d.fuse, .bool d.down] 34] := O564
 clear O564
 refine gw_setn 0 H563 O565 rfl (want_none rfl) rfl (op_storen gwsiz38 rfl (H563.ev rfl) (H563.ev rfl) (O565.get 0 rfl) rfl (by simp) (by simp [Value.oneCell'])) ?_
 intro _ w568 H567 O569; clear H563 O565
 refine gE hK553 ?_
 refine gw_seq fun K570 hK570 => ?_
 refine gR fun K571 hK571 => ?_
 refine Vm H567 fun _ H573 => ?_
 refine V H573 (op_geq rfl (H573.ev rfl) (ev_c _ _)) fun _ H575 => ?_
 clear H567 H573
 have H576 := H575.lit (b := true) (by rw [decide_eq_true_eq]; omega)
 clear H575
 refine gE hK571 ?_
 refine gw_cond H576 rfl (fun hb577 => ?_) (fun hb577 => ?_)
 rotate_left
 ·
  cases hb577
 refine wp_region_lit ?_
 refine Vf H576 (gwfld34_0 _ _) fun _ H579 => ?_
 refine Vl H579 gwagg32 (O569.get 3 rfl) fun _ H581 => ?_
 refine Vm H581 fun _ H583 => ?_
 clear H576 H579 H581
 obtain ⟨ad584, cs587, hA585, hl588, hK589, hc586, _⟩ := Kd.F_get hF z38 i0 (by omega) (by omega)
 obtain ⟨A590, c591, rfl, hl592, hC593⟩ := k38_openF hK589
 clear hl588
 refine V H583 (op_index Tryz.underlying32 gwsiz38 rfl (H583.ev rfl) (H583.ev rfl) hA585 (⟨by omega, by omega⟩)) fun _ H595 => ?_
 refine V H595 (op_loadc gwagg38 gwsiz38 rfl (H595.ev rfl) rfl (cells0 O569 hc586)) fun _ H597 => ?_
 clear H583 H595
 refine gw_setn 0 H597 O569 rfl (want_none rfl) rfl (op_storen gwsiz38 rfl (H597.ev rfl) (H597.ev rfl) (O569.get 0 rfl) rfl (by simp) (by simp [Value.oneCell'])) ?_
 intro _ w600 H599 O601; clear H597 O569
 refine gE hK570 ?_
 refine gw_seq fun K602 hK602 => ?_
 refine gR fun K603 hK603 => ?_
 refine Vf H599 (gwfld93_0 _ _) fun _ H605 => ?_
 refine Vl H605 gwagg3 (O601.get 2 rfl) fun _ H607 => ?_
 refine V H607 (op_eqi rfl (H607.ev rfl) (ev_c _ _)) fun _ H609 => ?_
 refine Vm H609 fun _ H611 => ?_
 clear H599 H605 H607 H609
 refine gw_evG H611 rfl rfl rfl rfl (on_t _) rfl (by decide) (fun h_ => (op_field (gwfld93_3 _ _) rfl (H611.ev rfl))) ?_
 intro _ H613; clear H611
 refine gw_evG H613 rfl rfl rfl rfl (on_t _) rfl (by decide) (fun h_ => (op_load1 gwagg3 rfl (ev_gv (H613.ev rfl) h_) (blk_at (O601.get 2 rfl) rfl))) ?_
 intro _ H615; clear H613
 refine gw_evG H615 rfl rfl rfl rfl (on_t _) rfl (by decide) (fun h_ => (op_lss rfl (ev_gv (H615.ev rfl) h_) (ev_c _ _))) ?_
 intro _ H617; clear H615
 refine gw_evG H617 rfl rfl rfl rfl (on_t _) rfl (by decide) (fun h_ => (op_move rfl (ev_gv (H617.ev rfl) h_))) ?_
 intro _ H619; clear H617
 refine gw_evG H619 rfl rfl rfl rfl (on_gf _ _) rfl (by decide) (fun h_ => (op_field (gwfld93_3 _ _) rfl (H619.ev rfl))) ?_
 intro _ H621; clear H619
 refine gw_evG H621 rfl rfl rfl rfl (on_gf _ _) rfl (by decide) (fun h_ => (op_load1 gwagg3 rfl (ev_gv (H621.ev rfl) (andi (and1 h_) (and2 h_))) (blk_at (O601.get 2 rfl) rfl))) ?_
 intro _ H623; clear H621
 refine gw_evG H623 rfl rfl rfl rfl (on_gf _ _) rfl (by decide) (fun h_ => (op_field (gwfld38_1 _ _) rfl (H623.ev rfl))) ?_
 intro _ H625; clear H623
 refine gw_evG H625 rfl rfl rfl rfl (on_gf _ _) rfl (by decide) (fun h_ => (op_load1 gwagg22 rfl (ev_gv (H625.ev rfl) (andi (and1 h_) (and2 h_))) (blk_at (O601.get 0 rfl) rfl))) ?_
 intro _ H627; clear H625
 refine gw_evG H627 rfl rfl rfl rfl (on_gf _ _) rfl (by decide) (fun h_ => (op_len Tryz.underlying22 rfl (ev_gv (H627.ev rfl) (andi (and1 h_) (and2 h_))))) ?_
 intro _ H629; clear H627
 refine gw_evG H629 rfl rfl rfl rfl (on_gf _ _) rfl (by decide) (fun h_ => (op_gtr rfl (ev_gv (H629.ev rfl) (andi (and1 h_) (and2 h_))) (ev_gv (H629.ev rfl) (andi (and1 h_) (and2 h_))))) ?_
 intro _ H631; clear H629
 refine gw_evG H631 rfl rfl rfl rfl (on_t _) rfl (by decide) (fun h_ => (op_pick_or rfl (ev_gv (H631.ev rfl) h_) (ev_c _ _) (fun hp_ => (ev_gv (H631.ev rfl) (andi h_ (not_t hp_)))))) ?_
 intro _ H633; clear H631
 refine V H633 (op_pick_and rfl (H633.ev rfl) (fun hp_ => (ev_gv (H633.ev rfl) hp_)) (ev_c _ _)) fun _ H635 => ?_
 refine gE hK603 ?_
 clear H633
 refine gw_cond H635 rfl (fun hb636 => ?_) (fun hb636 => ?_)
 ·
  have H637 := H635.subst_ (d := 80) (b := true) rfl hb636
  clear H635
  (try simp only [Bool.and_eq_true, Bool.and_eq_false_iff, Bool.or_eq_true, Bool.or_eq_false_iff, decide_eq_true_eq, decide_eq_false_iff_not, Int.not_lt] at hb636)
  have h80 := hb636
  refine gR fun K638 hK638 => ?_
  refine V H637 (op_loadn gwagg34 gwsiz34 rfl (H637.ev rfl) (O601.get 3 rfl) rfl rfl) fun _ H640 => ?_
  clear H637
  refine gw_setn 1 H640 O601 rfl (want_none rfl) rfl (op_storen gwsiz34 rfl (H640.ev rfl) (H640.ev rfl) (O601.get 1 rfl) rfl (by simp) (by simp [Value.oneCell'])) ?_
  intro _ w643 H642 O644; clear H640 O601
  refine Vc H642 fun _ H646 => ?_
  refine gE hK638 ?_
  refine wp_ret ?_
  clear H642
  refine gw_thr ?_
  refine gw_rets2 H646 rfl (rv_celln H646 rfl gwagg34 gwsiz34 (O644.get 1 rfl) rfl) (rv_tmp H646 rfl) ?_
  exact do_same hP ((does5 (by omega) (by omega) (by omega) (by omega) (by omega)).trans (cut_bad hdn hgd (show n < 0 ∨ ((files.getD i0.toNat z38).f1.length : Int) < n by omega))) hd hF hcf hA O644.below
 have H647 := H635.subst_ (d := 80) (b := false) rfl hb636
 clear H635
 (try simp only [Bool.and_eq_true, Bool.and_eq_false_iff, Bool.or_eq_true, Bool.or_eq_false_iff, decide_eq_true_eq, decide_eq_false_iff_not, Int.not_lt] at hb636)
 have h80 := hb636
 refine gS hK602 ?_
 refine gw_seq fun K648 hK648 => ?_
 refine gw_seq fun K649 hK649 => ?_
 refine gw_drawB O601 (by kernel_rfl) (by kernel_rfl) fun w650 O651 => ?_
 clear O601
 refine Vn H647 (op_field (gwfld93_0 _ _) rfl (H647.ev rfl)) fun _ H653 => ?_
 refine Vq H653 (fun wq hq => have HO := O651.after hq; op_load1 gwagg3 rfl (H653.ev rfl) (blk_at (HO.get 2 rfl) rfl)) fun _ H655 => ?_
 refine Vn H655 (op_eqi rfl (H655.ev rfl) (ev_c _ _)) fun _ H657 => ?_
 refine Vn H657 (op_move rfl (H657.ev rfl)) fun _ H659 => ?_
 clear H647 H653 H655 H657
 refine gq_evG H659 rfl rfl rfl rfl (on_t _) rfl (by decide) (fun h_ wq hq => have HO := O651.after hq; (op_field (gwfld93_4 _ _) rfl (H659.ev rfl))) ?_
 intro _ H661; clear H659
 refine gq_evG H661 rfl rfl rfl rfl (on_t _) rfl (by decide) (fun h_ wq hq => have HO := O651.after hq; (op_load1 gwagg22 rfl (ev_gv (H661.ev rfl) h_) (blk_at (HO.get 2 rfl) rfl))) ?_
 intro _ H663; clear H661
 refine gq_evG H663 rfl rfl rfl rfl (on_t _) rfl (by decide) (fun h_ wq hq => have HO := O651.after hq; (op_len Tryz.underlying22 rfl (ev_gv (H663.ev rfl) h_))) ?_
 intro _ H665; clear H663
 refine gq_evG H665 rfl rfl rfl rfl (on_t _) rfl (by decide) (fun h_ wq hq => have HO := O651.after hq; (op_field (gwfld34_1 _ _) rfl (H665.ev rfl))) ?_
 intro _ H667; clear H665
 refine gq_evG H667 rfl rfl rfl rfl (on_t _) rfl (by decide) (fun h_ wq hq => have HO := O651.after hq; (op_load1 gwagg3 rfl (ev_gv (H667.ev rfl) h_) (blk_at (HO.get 3 rfl) rfl))) ?_
 intro _ H669; clear H667
 refine gq_evG H669 rfl rfl rfl rfl (on_t _) rfl (by decide) (fun h_ wq hq => have HO := O651.after hq; (op_loadn gwagg34 gwsiz34 rfl (H669.ev rfl) (HO.get 3 rfl) rfl rfl)) ?_
 intro _ H671; clear H669
 refine gq_callG H671 rfl rfl rfl rfl (on_t _) rfl (by decide) (fun h_ wq hq => have HO := O651.after hq; (op_callL Tryz.func62 (by kernel_rfl) rfl rfl (ar_cons (ev_gv (H671.ev rfl) h_) ar_nil))) (fun h_ wq hq => have HO := O651.after hq; (used_ref Af cf files d.most d.fuse d.down _ (Kd.C_below (Kd.F_now hF) HO.below) hcf hlf (by (try simp only [bxs_, ne_eq, bne_iff_ne, beq_iff_eq, bne_eq_false_iff_eq, beq_eq_false_iff_ne] at h_); omega)).mono fun e w' h => ⟨h.1, below_then hq h.2⟩) ?_
 intro _ H673; clear H671
 have H674 := H673.conv (v' := gv (decide (kd = 2)) (J d.used)) (congrArg (gv _) (congrArg (Value.int .i64) hus))
 clear H673
 refine gq_evG H674 rfl rfl rfl rfl (on_t _) rfl (by decide) (fun h_ wq hq => have HO := O651.after hq; (op_sub rfl (ev_gv (H674.ev rfl) h_) (ev_gv (H674.ev rfl) h_) (by (try simp only [bxs_, ne_eq, bne_iff_ne, beq_iff_eq, bne_eq_false_iff_eq, beq_eq_false_iff_ne] at h_); omega))) ?_
 intro _ H676; clear H674
 refine gq_evG H676 rfl rfl rfl rfl (on_t _) rfl (by decide) (fun h_ wq hq => have HO := O651.after hq; (op_gtr rfl (ev_gv (H676.ev rfl) h_) (ev_gv (H676.ev rfl) h_))) ?_
 intro _ H678; clear H676
 refine Vn H678 (op_pick_and rfl (H678.ev rfl) (fun hp_ => (ev_gv (H678.ev rfl) hp_)) (ev_c _ _)) fun _ H680 => ?_
 clear H678
 refine wpQuiet_nil ?_
 intro w681 hq
 have O682 := O651.after hq
 clear O651 hq
 refine gw_nx (hK649 _ _ ?_)
 refine gw_cond H680 rfl (fun hb683 => ?_) (fun hb683 => ?_)
 ·
  have H684 := H680.subst_ (d := 95) (b := true) rfl hb683
  clear H680
  (try simp only [Bool.and_eq_true, Bool.and_eq_false_iff, decide_eq_true_eq, decide_eq_false_iff_not, Int.not_lt] at hb683)
  have h95 := hb683
  refine gR fun K685 hK685 => ?_
  refine V H684 (op_loadn gwagg34 gwsiz34 rfl (H684.ev rfl) (O682.get 3 rfl) rfl rfl) fun _ H687 => ?_
  clear H684
  refine gw_setn 1 H687 O682 rfl (want_none rfl) rfl (op_storen gwsiz34 rfl (H687.ev rfl) (H687.ev rfl) (O682.get 1 rfl) rfl (by simp) (by simp [Value.oneCell'])) ?_
  intro _ w690 H689 O691; clear H687 O682
  refine Vc H689 fun _ H693 => ?_
  refine gE hK685 ?_
  refine wp_ret ?_
  clear H689
  refine gw_thr ?_
  refine gw_rets2 H693 rfl (rv_celln H693 rfl gwagg34 gwsiz34 (O691.get 1 rfl) rfl) (rv_tmp H693 rfl) ?_
  exact do_same hP ((does2 (by omega) (by omega)).trans (append_full hdn hgd (by omega))) hd hF hcf hA O691.below
 have H694 := H680.subst_ (d := 95) (b := false) rfl hb683
 clear H680
 (try simp only [Bool.and_eq_true, Bool.and_eq_false_iff, decide_eq_true_eq, decide_eq_false_iff_not, Int.not_lt] at hb683)
 have h95 := hb683
 refine gS hK648 ?_
 refine gw_joinS (fun a_ w_ => ∃ (fu : Int), Fr 186 a_ [(2, .pointer (some ⟨g390, 0, none⟩)), (3, .pointer (some ⟨g396, 0, none⟩)), (4, .pointer (some ⟨g402, 0, none⟩)), (7, .pointer (some ⟨g560, 0, none⟩))] ∧ Own w w_ [Bk g560 [.string ((files.getD i0.toNat z38).f0), .slice A590 ((files.getD i0.toNat z38).f1.length) c591, J ((files.getD i0.toNat z38).f2)] 38, Bk g402 [.slice none 0 0, J 0, J 0, .bool false] 34, Bk g396 [J kd, .string nm, .string dest, J n, .slice Ay y.length cy] 93, Bk g390 [.slice Af files.length cf, J d.most, J fu, .bool d.down] 34] ∧ (fu = decF d.fuse ∧ d.fuse ≠ 1)) ?_ ?_
 ·
  refine gR fun K695 hK695 => ?_
  refine Vf H694 (gwfld34_2 _ _) fun _ H697 => ?_
  refine Vl H697 gwagg3 (O682.get 3 rfl) fun _ H699 => ?_
  refine V H699 (op_gtr rfl (H699.ev rfl) (ev_c _ _)) fun _ H701 => ?_
  refine gE hK695 ?_
  clear H694 H697 H699
  refine gw_cond H701 rfl (fun hb702 => ?_) (fun hb702 => ?_)
  ·
   have H703 := H701.subst_ (d := 99) (b := true) rfl hb702
   clear H701
   (try simp only [decide_eq_true_eq] at hb702)
   refine gR fun K704 hK704 => ?_
   refine Vf H703 (gwfld34_2 _ _) fun _ H706 => ?_
   refine Vl H706 gwagg3 (O682.get 3 rfl) fun _ H708 => ?_
   refine V H708 (op_sub rfl (H708.ev rfl) (ev_c _ _) (by omega)) fun _ H710 => ?_
   refine Vf H710 (gwfld34_2 _ _) fun _ H712 => ?_
   clear H703 H706 H708 H710
   refine gw_set 3 H712 O682 rfl (want_none rfl) rfl (op_store1 gwsiz3 rfl (H712.ev rfl) (H712.ev rfl) rfl (blk_at (O682.get 3 rfl) rfl) (blkf (O682.get 3 rfl))) ?_
   intro _ w715 H714 O716; clear H712 O682
   refine gE hK704 ?_
   refine gR fun K717 hK717 => ?_
   refine Vf H714 (gwfld34_2 _ _) fun _ H719 => ?_
   refine Vl H719 gwagg3 (O716.get 3 rfl) fun _ H721 => ?_
   refine V H721 (op_eqi rfl (H721.ev rfl) (ev_c _ _)) fun _ H723 => ?_
   refine gE hK717 ?_
   clear H714 H719 H721
   refine gw_cond H723 rfl (fun hb724 => ?_) (fun hb724 => ?_)
   ·
    have H725 := H723.subst_ (d := 106) (b := true) rfl hb724
    clear H723
    (try simp only [decide_eq_true_eq] at hb724)
    refine gR fun K726 hK726 => ?_
    refine Vf H725 (gwfld34_3 _ _) fun _ H728 => ?_
    clear H725
    refine gw_set 3 H728 O716 rfl (want_none rfl) rfl (op_store1 gwsiz4 rfl (H728.ev rfl) (ev_c _ _) rfl (blk_at (O716.get 3 rfl) rfl) (blkf (O716.get 3 rfl))) ?_
    intro _ w731 H730 O732; clear H728 O716
    have O733 : Own w w731 [Bk g560 [.string ((files.getD i0.toNat z38).f0), .slice A590 ((files.getD i0.toNat z38).f1.length) c591, J ((files.getD i0.toNat z38).f2)] 38, Bk g402 [.slice none 0 0, J 0, J 0, .bool false] 34, Bk g396 [J kd, .string nm, .string dest, J n, .slice Ay y.length cy] 93, Bk g390 [.slice Af files.length cf, J d.most, J (d.fuse - 1), .bool true] 34] := O732
    clear O732
    refine gE hK726 ?_
    refine gR fun K734 hK734 => ?_
    refine V H730 (op_loadn gwagg34 gwsiz34 rfl (H730.ev rfl) (O733.get 3 rfl) rfl rfl) fun _ H736 => ?_
    clear H730
    refine gw_setn 1 H736 O733 rfl (want_none rfl) rfl (op_storen gwsiz34 rfl (H736.ev rfl) (H736.ev rfl) (O733.get 1 rfl) rfl (by simp) (by simp [Value.oneCell'])) ?_
    intro _ w739 H738 O740; clear H736 O733
    refine Vc H738 fun _ H742 => ?_
    refine gE hK734 ?_
    refine wp_ret ?_
    clear H738
    refine gw_thr ?_
    refine gw_rets2 H742 rfl (rv_celln H742 rfl gwagg34 gwsiz34 (O740.get 1 rfl) rfl) (rv_tmp H742 rfl) ?_
    rw [show d.fuse - 1 = 0 by omega]
    exact do_same (d2 := { d with fuse := 0, down := true }) hP ((does_go (f := ofS (files.getD i0.toNat z38)) hdn (.inr ⟨by omega, hgd, fun h_ => by omega, hn4, fun h_ => (show ¬ (n < 0 ∨ ((files.getD i0.toNat z38).f1.length : Int) < n) by omega)⟩)).trans (step_off (by omega))) hd hF hcf hA O740.below
   have H743 := H723.subst_ (d := 106) (b := false) rfl hb724
   clear H723
   (try simp only [decide_eq_false_iff_not] at hb724)
   refine wp_skip ?_
   refine gw_nx ⟨(d.fuse - 1), (H743.pick (t := 2) rfl (H743.pick (t := 3) rfl (H743.pick (t := 4) rfl (H743.pick (t := 7) rfl H743.nil)))), O716.sel [0, 1, 2, 3] (by decide), ?_⟩
   exact ⟨by unfold decF; split <;> omega, by omega⟩
  have H744 := H701.subst_ (d := 99) (b := false) rfl hb702
  clear H701
  (try simp only [decide_eq_false_iff_not, Int.not_lt] at hb702)
  refine wp_skip ?_
  refine gw_nx ⟨d.fuse, (H744.pick (t := 2) rfl (H744.pick (t := 3) rfl (H744.pick (t := 4) rfl (H744.pick (t := 7) rfl H744.nil)))), O682.sel [0, 1, 2, 3] (by decide), ?_⟩
  exact ⟨by unfold decF; split <;> omega, by omega⟩
 rintro _ w746 ⟨fu, H747, O748, hfud⟩
 refine gw_seq fun K749 hK749 => ?_
 refine gR fun K750 hK750 => ?_
 refine Vf H747 (gwfld93_0 _ _) fun _ H752 => ?_
 refine Vl H752 gwagg3 (O748.get 2 rfl) fun _ H754 => ?_
 refine gE hK750 ?_
 clear H747 H752
 refine wp_block ?_
 refine gR fun K755 hK755 => ?_
 refine V H754 (op_eqi rfl (H754.ev rfl) (ev_c _ _)) fun _ H757 => ?_
 refine Va H757 fun _ H759 => ?_
 refine gE hK755 ?_
 clear H754 H757
 refine gw_cond H759 rfl (fun hb760 => ?_) (fun hb760 => ?_)
 ·
  have H761 := H759.subst_ (d := 111) (b := true) rfl hb760
  clear H759
  (try simp only [decide_eq_true_eq] at hb760)
  have hk2 := hb760
  refine gR fun K762 hK762 => ?_
  refine gw_lit (enc := Value.int .u8) (fun _ => rfl) (xs := ([] : List Int)) (e := 5) H761 O748 (want_none rfl) rfl (by decide) (op_bslice (by kernel_rfl) rfl pt_nil) (by simp) ?_
  intro A763 S764 _ w766 H767 O768; clear H761 O748
  have O769 : Own w w766 [Chunk.row (Kd.int .u8) 5 w.heap.size S764 (.slice A763 ((([] : List Int)).length) ((([] : List Int)).length)) ([] : List Int), Bk g560 [.string ((files.getD i0.toNat z38).f0), .slice A590 ((files.getD i0.toNat z38).f1.length) c591, J ((files.getD i0.toNat z38).f2)] 38, Bk g402 [.slice none 0 0, J 0, J 0, .bool false] 34, Bk g396 [J kd, .string nm, .string dest, J n, .slice Ay y.length cy] 93, Bk g390 [.slice Af files.length cf, J d.most, J fu, .bool d.down] 34] := O768
  clear O768
  refine Va H767 fun _ H771 => ?_
  refine gE hK762 ?_
  refine gw_seq fun K772 hK772 => ?_
  refine gR fun K773 hK773 => ?_
  refine Vc H771 fun _ H775 => ?_
  refine gE hK773 ?_
  clear H767 H771
  refine wp_block ?_
  refine gw_loop (fun m_ a_ w_ => ∃ (j : Int) (bb : List Int) (Aa : Option Addr) (ca : Nat) (Sr : Nat → Prop), Fr 186 a_ [(9, J j), (8, .slice Aa bb.length ca), (2, .pointer (some ⟨g390, 0, none⟩)), (3, .pointer (some ⟨g396, 0, none⟩)), (4, .pointer (some ⟨g402, 0, none⟩)), (7, .pointer (some ⟨g560, 0, none⟩))] ∧ Own w w_ [Chunk.row (Kd.int .u8) 5 w.heap.size Sr (.slice Aa bb.length ca) bb, Bk g560 [.string ((files.getD i0.toNat z38).f0), .slice A590 ((files.getD i0.toNat z38).f1.length) c591, J ((files.getD i0.toNat z38).f2)] 38, Bk g402 [.slice none 0 0, J 0, J 0, .bool false] 34, Bk g396 [J kd, .string nm, .string dest, J n, .slice Ay y.length cy] 93, Bk g390 [.slice Af files.length cf, J d.most, J fu, .bool d.down] 34] ∧ (0 ≤ j ∧ j ≤ (files.getD i0.toNat z38).f1.length) ∧ (bb = (files.getD i0.toNat z38).f1.take j.toNat) ∧ ((bb.length : Int) = j) ∧ m_ = ((files.getD i0.toNat z38).f1.length - j.toNat)) (((files.getD i0.toNat z38).f1.length - (0 : Int).toNat)) ?_ ?_
  ·
   refine ⟨0, [], A763, _, _, (H775.pick (t := 9) rfl (H775.pick (t := 8) rfl (H775.pick (t := 2) rfl (H775.pick (t := 3) rfl (H775.pick (t := 4) rfl (H775.pick (t := 7) rfl H775.nil)))))), O769.sel [0, 1, 2, 3, 4] (by decide), ?_, ?_, ?_, rfl⟩
   ·
    omega
   ·
    simp
   simp
  rintro m777 _ w779 ⟨j, bb, Aa, ca, Sr, H780, O781, hj, hbb, hbl, hm782⟩
  refine gw_seq fun K783 hK783 => ?_
  refine gR fun K784 hK784 => ?_
  refine Vm H780 fun _ H786 => ?_
  refine Vf H786 (gwfld38_1 _ _) fun _ H788 => ?_
  refine Vl H788 gwagg22 (O781.get 1 rfl) fun _ H790 => ?_
  refine V H790 (op_len Tryz.underlying22 rfl (H790.ev rfl)) fun _ H792 => ?_
  refine V H792 (op_lss rfl (H792.ev rfl) (H792.ev rfl)) fun _ H794 => ?_
  refine gE hK784 ?_
  clear H780 H786 H788 H790 H792
  refine gw_cond H794 rfl (fun hb795 => ?_) (fun hb795 => ?_)
  ·
   have H796 := H794.subst_ (d := 118) (b := true) rfl hb795
   clear H794
   (try simp only [decide_eq_true_eq] at hb795)
   refine gS hK783 ?_
   refine gw_seq fun K797 hK797 => ?_
   refine wp_block ?_
   refine wp_region_lit ?_
   refine Vm H796 fun _ H799 => ?_
   refine Vf H799 (gwfld38_1 _ _) fun _ H801 => ?_
   refine Vl H801 gwagg22 (O781.get 1 rfl) fun _ H803 => ?_
   refine Vm H803 fun _ H805 => ?_
   clear H796 H799 H801 H803
   obtain ⟨ad806, cs809, hA807, hl810, hK811, hc808, _⟩ := Kd.F_get hC593 (0 : Int) j (by omega) (by omega)
   obtain rfl := int_openF hK811
   clear hl810
   refine V H805 (op_index Tryz.underlying22 gwsiz5 rfl (H805.ev rfl) (H805.ev rfl) hA807 (⟨by omega, by omega⟩)) fun _ H813 => ?_
   refine V H813 (op_load1 gwagg5 rfl (H813.ev rfl) (O781.cell0 (at0 hc808))) fun _ H815 => ?_
   clear H805 H813
   refine gw_lit (enc := Value.int .u8) (fun _ => rfl) (xs := [(((files.getD i0.toNat z38).f1).getD j.toNat (0 : Int))]) (e := 5) H815 O781 (want_none rfl) rfl (by decide) (op_bslice (by kernel_rfl) rfl (pt_cons (H815.ev rfl) pt_nil)) (by simp) ?_
   intro A816 S817 _ w819 H820 O821; clear H815 O781
   have O822 : Own w w819 [Chunk.row (Kd.int .u8) 5 w.heap.size S817 (.slice A816 (([(((files.getD i0.toNat z38).f1).getD j.toNat (0 : Int))]).length) (([(((files.getD i0.toNat z38).f1).getD j.toNat (0 : Int))]).length)) ([(((files.getD i0.toNat z38).f1).getD j.toNat (0 : Int))]), Chunk.row (Kd.int .u8) 5 w.heap.size Sr (.slice Aa bb.length ca) bb, Bk g560 [.string ((files.getD i0.toNat z38).f0), .slice A590 ((files.getD i0.toNat z38).f1.length) c591, J ((files.getD i0.toNat z38).f2)] 38, Bk g402 [.slice none 0 0, J 0, J 0, .bool false] 34, Bk g396 [J kd, .string nm, .string dest, J n, .slice Ay y.length cy] 93, Bk g390 [.slice Af files.length cf, J d.most, J fu, .bool d.down] 34] := O821
   clear O821
   refine gw_append (Kd.int .u8) 1 H820 O822 (want_none rfl) rfl (by decide) rfl Tryz.underlying22 gwinfo5 rfl (by decide) (by decide) rfl (H820.ev rfl) (H820.ev rfl) (Kd.R_reads' (O822.get 0 rfl)).2.2 (fun _ _ h => h) O822.below.size (by first | omega | (simp; omega)) ?_
   intro A823 c824 S825 _ w827 H828 O829; clear H820 O822
   have O830 : Own w w827 [Chunk.row (Kd.int .u8) 5 w.heap.size S817 (.slice A816 (([(((files.getD i0.toNat z38).f1).getD j.toNat (0 : Int))]).length) (([(((files.getD i0.toNat z38).f1).getD j.toNat (0 : Int))]).length)) ([(((files.getD i0.toNat z38).f1).getD j.toNat (0 : Int))]), Chunk.row (Kd.int .u8) 5 w.heap.size S825 (.slice A823 ((bb ++ [(((files.getD i0.toNat z38).f1).getD j.toNat (0 : Int))]).length) c824) (bb ++ [(((files.getD i0.toNat z38).f1).getD j.toNat (0 : Int))]), Bk g560 [.string ((files.getD i0.toNat z38).f0), .slice A590 ((files.getD i0.toNat z38).f1.length) c591, J ((files.getD i0.toNat z38).f2)] 38, Bk g402 [.slice none 0 0, J 0, J 0, .bool false] 34, Bk g396 [J kd, .string nm, .string dest, J n, .slice Ay y.length cy] 93, Bk g390 [.slice Af files.length cf, J d.most, J fu, .bool d.down] 34] := O829
   clear O829
   refine Va H828 fun _ H832 => ?_
   clear H828
   refine wpList_nil ?_
   refine gw_blk ?_
   refine gw_nx (hK797 _ _ ?_)
   refine wp_region_lit ?_
   refine Vm H832 fun _ H834 => ?_
   refine V H834 (op_add rfl (H834.ev rfl) (ev_c _ _) (by omega)) fun _ H836 => ?_
   refine Va H836 fun _ H838 => ?_
   clear H832 H834 H836
   refine wpList_nil ?_
   refine gw_nx ⟨_, ?_, j + 1, (bb ++ [(((files.getD i0.toNat z38).f1).getD j.toNat (0 : Int))]), A823, _, _, (H838.pick (t := 9) rfl (H838.pick (t := 8) rfl (H838.pick (t := 2) rfl (H838.pick (t := 3) rfl (H838.pick (t := 4) rfl (H838.pick (t := 7) rfl H838.nil)))))), O830.sel [1, 2, 3, 4, 5] (by decide), ?_, ?_, ?_, rfl⟩
   ·
    rw [hm782]; omega
   ·
    omega
   ·
    rw [take_one (by omega) (by omega), ← hbb]
   rw [List.length_append, List.length_singleton]; omega
  have H839 := H794.subst_ (d := 118) (b := false) rfl hb795
  clear H794
  (try simp only [decide_eq_false_iff_not, Int.not_lt] at hb795)
  refine wp_exit ?_
  refine gw_thx ?_
  refine gw_thx ?_
  refine gw_in ?_
  refine gw_nx (hK772 _ _ ?_)
  refine gw_seq fun K840 hK840 => ?_
  refine gR fun K841 hK841 => ?_
  refine Vc H839 fun _ H843 => ?_
  refine gE hK841 ?_
  clear H839
  refine wp_block ?_
  refine gw_loop (fun m_ a_ w_ => ∃ (k2 : Int) (b2 : List Int) (Ab : Option Addr) (cb : Nat) (Sq : Nat → Prop), Fr 186 a_ [(10, J k2), (8, .slice Ab b2.length cb), (2, .pointer (some ⟨g390, 0, none⟩)), (3, .pointer (some ⟨g396, 0, none⟩)), (4, .pointer (some ⟨g402, 0, none⟩)), (7, .pointer (some ⟨g560, 0, none⟩))] ∧ Own w w_ [Chunk.row (Kd.int .u8) 5 w.heap.size Sq (.slice Ab b2.length cb) b2, Bk g560 [.string ((files.getD i0.toNat z38).f0), .slice A590 ((files.getD i0.toNat z38).f1.length) c591, J ((files.getD i0.toNat z38).f2)] 38, Bk g402 [.slice none 0 0, J 0, J 0, .bool false] 34, Bk g396 [J kd, .string nm, .string dest, J n, .slice Ay y.length cy] 93, Bk g390 [.slice Af files.length cf, J d.most, J fu, .bool d.down] 34] ∧ (0 ≤ k2 ∧ k2 ≤ y.length) ∧ (b2 = (files.getD i0.toNat z38).f1 ++ y.take k2.toNat) ∧ ((b2.length : Int) = (files.getD i0.toNat z38).f1.length + k2) ∧ m_ = (y.length - k2.toNat)) ((y.length - (0 : Int).toNat)) ?_ ?_
  ·
   refine ⟨0, bb, Aa, _, _, (H843.pick (t := 10) rfl (H843.pick (t := 8) rfl (H843.pick (t := 2) rfl (H843.pick (t := 3) rfl (H843.pick (t := 4) rfl (H843.pick (t := 7) rfl H843.nil)))))), O781.sel [0, 1, 2, 3, 4] (by decide), ?_, ?_, ?_, rfl⟩
   ·
    omega
   ·
    rw [hbb, List.take_of_length_le (by omega)]; simp
   omega
  rintro m845 _ w847 ⟨k2, b2, Ab, cb, Sq, H848, O849, hk2, hb2, hbl2, hm850⟩
  refine gw_seq fun K851 hK851 => ?_
  refine gR fun K852 hK852 => ?_
  refine Vm H848 fun _ H854 => ?_
  refine Vf H854 (gwfld93_4 _ _) fun _ H856 => ?_
  refine Vl H856 gwagg22 (O849.get 3 rfl) fun _ H858 => ?_
  refine V H858 (op_len Tryz.underlying22 rfl (H858.ev rfl)) fun _ H860 => ?_
  refine V H860 (op_lss rfl (H860.ev rfl) (H860.ev rfl)) fun _ H862 => ?_
  refine gE hK852 ?_
  clear H848 H854 H856 H858 H860
  refine gw_cond H862 rfl (fun hb863 => ?_) (fun hb863 => ?_)
  ·
   have H864 := H862.subst_ (d := 133) (b := true) rfl hb863
   clear H862
   (try simp only [decide_eq_true_eq] at hb863)
   refine gS hK851 ?_
   refine gw_seq fun K865 hK865 => ?_
   refine wp_block ?_
   refine wp_region_lit ?_
   refine Vm H864 fun _ H867 => ?_
   refine Vf H867 (gwfld93_4 _ _) fun _ H869 => ?_
   refine Vl H869 gwagg22 (O849.get 3 rfl) fun _ H871 => ?_
   refine Vm H871 fun _ H873 => ?_
   clear H864 H867 H869 H871
   obtain ⟨ad874, cs877, hA875, hl878, hK879, hc876⟩ := Kd.C_get hy (0 : Int) k2 (by omega) (by omega)
   obtain rfl := id hK879
   clear hl878
   refine V H873 (op_index Tryz.underlying22 gwsiz5 rfl (H873.ev rfl) (H873.ev rfl) hA875 (⟨by omega, by omega⟩)) fun _ H881 => ?_
   refine V H881 (op_load1 gwagg5 rfl (H881.ev rfl) (O849.cell0 (at0 hc876))) fun _ H883 => ?_
   clear H873 H881
   refine gw_lit (enc := Value.int .u8) (fun _ => rfl) (xs := [(y.getD k2.toNat (0 : Int))]) (e := 5) H883 O849 (want_none rfl) rfl (by decide) (op_bslice (by kernel_rfl) rfl (pt_cons (H883.ev rfl) pt_nil)) (by simp) ?_
   intro A884 S885 _ w887 H888 O889; clear H883 O849
   have O890 : Own w w887 [Chunk.row (Kd.int .u8) 5 w.heap.size S885 (.slice A884 (([(y.getD k2.toNat (0 : Int))]).length) (([(y.getD k2.toNat (0 : Int))]).length)) ([(y.getD k2.toNat (0 : Int))]), Chunk.row (Kd.int .u8) 5 w.heap.size Sq (.slice Ab b2.length cb) b2, Bk g560 [.string ((files.getD i0.toNat z38).f0), .slice A590 ((files.getD i0.toNat z38).f1.length) c591, J ((files.getD i0.toNat z38).f2)] 38, Bk g402 [.slice none 0 0, J 0, J 0, .bool false] 34, Bk g396 [J kd, .string nm, .string dest, J n, .slice Ay y.length cy] 93, Bk g390 [.slice Af files.length cf, J d.most, J fu, .bool d.down] 34] := O889
   clear O889
   refine gw_append (Kd.int .u8) 1 H888 O890 (want_none rfl) rfl (by decide) rfl Tryz.underlying22 gwinfo5 rfl (by decide) (by decide) rfl (H888.ev rfl) (H888.ev rfl) (Kd.R_reads' (O890.get 0 rfl)).2.2 (fun _ _ h => h) O890.below.size (by first | omega | (simp; omega)) ?_
   intro A891 c892 S893 _ w895 H896 O897; clear H888 O890
   have O898 : Own w w895 [Chunk.row (Kd.int .u8) 5 w.heap.size S885 (.slice A884 (([(y.getD k2.toNat (0 : Int))]).length) (([(y.getD k2.toNat (0 : Int))]).length)) ([(y.getD k2.toNat (0 : Int))]), Chunk.row (Kd.int .u8) 5 w.heap.size S893 (.slice A891 ((b2 ++ [(y.getD k2.toNat (0 : Int))]).length) c892) (b2 ++ [(y.getD k2.toNat (0 : Int))]), Bk g560 [.string ((files.getD i0.toNat z38).f0), .slice A590 ((files.getD i0.toNat z38).f1.length) c591, J ((files.getD i0.toNat z38).f2)] 38, Bk g402 [.slice none 0 0, J 0, J 0, .bool false] 34, Bk g396 [J kd, .string nm, .string dest, J n, .slice Ay y.length cy] 93, Bk g390 [.slice Af files.length cf, J d.most, J fu, .bool d.down] 34] := O897
   clear O897
   refine Va H896 fun _ H900 => ?_
   clear H896
   refine wpList_nil ?_
   refine gw_blk ?_
   refine gw_nx (hK865 _ _ ?_)
   refine wp_region_lit ?_
   refine Vm H900 fun _ H902 => ?_
   refine V H902 (op_add rfl (H902.ev rfl) (ev_c _ _) (by omega)) fun _ H904 => ?_
   refine Va H904 fun _ H906 => ?_
   clear H900 H902 H904
   refine wpList_nil ?_
   refine gw_nx ⟨_, ?_, k2 + 1, (b2 ++ [(y.getD k2.toNat (0 : Int))]), A891, _, _, (H906.pick (t := 10) rfl (H906.pick (t := 8) rfl (H906.pick (t := 2) rfl (H906.pick (t := 3) rfl (H906.pick (t := 4) rfl (H906.pick (t := 7) rfl H906.nil)))))), O898.sel [1, 2, 3, 4, 5] (by decide), ?_, ?_, ?_, rfl⟩
   ·
    rw [hm850]; omega
   ·
    omega
   ·
    rw [take_one (by omega) (by omega), ← List.append_assoc, ← hb2]
   rw [List.length_append, List.length_singleton]; omega
  have H907 := H862.subst_ (d := 133) (b := false) rfl hb863
  clear H862
  (try simp only [decide_eq_false_iff_not, Int.not_lt] at hb863)
  refine wp_exit ?_
  refine gw_thx ?_
  refine gw_thx ?_
  refine gw_in ?_
  refine gw_nx (hK840 _ _ ?_)
  refine wp_region_lit ?_
  refine Vm H907 fun _ H909 => ?_
  refine Vf H909 (gwfld38_1 _ _) fun _ H911 => ?_
  clear H907 H909
  refine gw_set 1 H911 O849 rfl (want_none rfl) rfl (op_store1 gwsiz22 rfl (H911.ev rfl) (H911.ev rfl) rfl (blk_at (O849.get 1 rfl) rfl) (blkf (O849.get 1 rfl))) ?_
  intro _ w914 H913 O915; clear H911 O849
  refine wpList_nil ?_
  refine gw_blk ?_
  refine gw_nx (hK749 _ _ ?_)
  refine gR fun K916 hK916 => ?_
  refine V H913 (op_loadn gwagg34 gwsiz34 rfl (H913.ev rfl) (O915.get 4 rfl) rfl rfl) fun _ H918 => ?_
  refine V H918 (op_loadn gwagg38 gwsiz38 rfl (H918.ev rfl) (O915.get 1 rfl) rfl rfl) fun _ H920 => ?_
  clear H913 H918
  refine Wk H920 Tryz.func10 rfl (ar_cons (H920.ev rfl) (ar_cons (H920.ev rfl) ar_nil)) (with_own Af cf files d.most fu d.down ((files.getD i0.toNat z38).f0) Ab cb b2 ((files.getD i0.toNat z38).f2) hP 0 rfl O915 (F_up O915 hP hF _) hcf (Kd.F_mono (Kd.N_F (Kd.R_N (O915.get 0 rfl))) (fun k hk => .inr hk)) (row_cap (O915.get 0 rfl)) hlf) ?_
  rintro e924 w925 ⟨A921, c922, S923, rfl, hb926⟩
  refine ⟨_, rfl, fun _ H928 => ?_⟩
  have O929 := O915.calls 0 rfl hb926
  clear H920 O915 hb926
  refine gw_setn 2 H928 O929 rfl (want_none rfl) rfl (op_storen gwsiz34 rfl (H928.ev rfl) (H928.ev rfl) (O929.get 2 rfl) rfl (by simp) (by simp [Value.oneCell'])) ?_
  intro _ w933 H932 O934; clear H928 O929
  refine Vc H932 fun _ H936 => ?_
  refine gE hK916 ?_
  refine wp_ret ?_
  clear H932
  refine gw_rets2 H936 rfl (rv_celln H936 rfl gwagg34 gwsiz34 (O934.get 2 rfl) rfl) (rv_tmp H936 rfl) ?_
  have ef_ : fu = decF d.fuse := hfud.1
  rw [ef_]
  exact do_new hP (((does_go (f := ofS (files.getD i0.toNat z38)) hdn (.inr ⟨by omega, hgd, fun h_ => by omega, hn4, fun h_ => (show ¬ (n < 0 ∨ ((files.getD i0.toNat z38).f1.length : Int) < n) by omega)⟩)).trans (step_on (by omega) hfu.1)).trans (congrArg (·, (0 : Int)) (ks2 (by omega)))) (with_upd (d := d) (h := fun f => { f with b := f.b ++ y }) hd hw hgd (by rw [show b2 = (files.getD i0.toNat z38).f1 ++ y by rw [hb2, List.take_of_length_le (by omega)]]; rfl) hxn) O934 0 rfl
 have H937 := H759.subst_ (d := 111) (b := false) rfl hb760
 clear H759
 (try simp only [decide_eq_false_iff_not] at hb760)
 have hk2 := hb760
 refine gR fun K938 hK938 => ?_
 refine V H937 (op_eqi rfl (H937.ev rfl) (ev_c _ _)) fun _ H940 => ?_
 refine Va H940 fun _ H942 => ?_
 refine gE hK938 ?_
 clear H937 H940
 refine gw_cond H942 rfl (fun hb943 => ?_) (fun hb943 => ?_)
 ·
  have H944 := H942.subst_ (d := 146) (b := true) rfl hb943
  clear H942
  (try simp only [decide_eq_true_eq] at hb943)
  have hk3 := hb943
  refine wp_region_lit ?_
  refine Vf H944 (gwfld38_1 _ _) fun _ H946 => ?_
  refine Vl H946 gwagg22 (O748.get 0 rfl) fun _ H948 => ?_
  refine V H948 (op_len Tryz.underlying22 rfl (H948.ev rfl)) fun _ H950 => ?_
  refine Vf H950 (gwfld38_2 _ _) fun _ H952 => ?_
  clear H944 H946 H948 H950
  refine gw_set 0 H952 O748 rfl (want_none rfl) rfl (op_store1 gwsiz3 rfl (H952.ev rfl) (H952.ev rfl) rfl (blk_at (O748.get 0 rfl) rfl) (blkf (O748.get 0 rfl))) ?_
  intro _ w955 H954 O956; clear H952 O748
  refine wpList_nil ?_
  refine gw_blk ?_
  refine gw_nx (hK749 _ _ ?_)
  refine gR fun K957 hK957 => ?_
  refine V H954 (op_loadn gwagg34 gwsiz34 rfl (H954.ev rfl) (O956.get 3 rfl) rfl rfl) fun _ H959 => ?_
  refine V H959 (op_loadn gwagg38 gwsiz38 rfl (H959.ev rfl) (O956.get 0 rfl) rfl rfl) fun _ H961 => ?_
  clear H954 H959
  have O965 := O956.void
  clear O956
  have O967 : Own w w955 [Chunk.void, Bk g560 [.string ((files.getD i0.toNat z38).f0), .slice A590 ((files.getD i0.toNat z38).f1.length) c591, J (((files.getD i0.toNat z38).f1.length) : Int)] 38, Bk g402 [.slice none 0 0, J 0, J 0, .bool false] 34, Bk g396 [J kd, .string nm, .string dest, J n, .slice Ay y.length cy] 93, Bk g390 [.slice Af files.length cf, J d.most, J fu, .bool d.down] 34] := O965
  clear O965
  refine Wk H961 Tryz.func10 rfl (ar_cons (H961.ev rfl) (ar_cons (H961.ev rfl) ar_nil)) (with_own Af cf files d.most fu d.down ((files.getD i0.toNat z38).f0) A590 c591 (files.getD i0.toNat z38).f1 (((files.getD i0.toNat z38).f1.length) : Int) hP 0 rfl O967 (F_up O967 hP hF _) hcf (F_up O967 hP hC593 _) hl592 hlf) ?_
  rintro e968 w969 ⟨A962, c963, S964, rfl, hb970⟩
  refine ⟨_, rfl, fun _ H972 => ?_⟩
  have O973 := O967.calls 0 rfl hb970
  clear H961 O967 hb970
  refine gw_setn 2 H972 O973 rfl (want_none rfl) rfl (op_storen gwsiz34 rfl (H972.ev rfl) (H972.ev rfl) (O973.get 2 rfl) rfl (by simp) (by simp [Value.oneCell'])) ?_
  intro _ w977 H976 O978; clear H972 O973
  refine Vc H976 fun _ H980 => ?_
  refine gE hK957 ?_
  refine wp_ret ?_
  clear H976
  refine gw_rets2 H980 rfl (rv_celln H980 rfl gwagg34 gwsiz34 (O978.get 2 rfl) rfl) (rv_tmp H980 rfl) ?_
  have ef_ : fu = decF d.fuse := hfud.1
  rw [ef_]
  exact do_new hP (((does_go (f := ofS (files.getD i0.toNat z38)) hdn (.inr ⟨by omega, hgd, fun h_ => by omega, hn4, fun h_ => (show ¬ (n < 0 ∨ ((files.getD i0.toNat z38).f1.length : Int) < n) by omega)⟩)).trans (step_on (by omega) hfu.1)).trans (congrArg (·, (0 : Int)) (ks3 (by omega)))) (with_upd (d := d) (h := fun f => { f with sf := f.b.length }) hd hw hgd rfl hxn) O978 0 rfl
 have H981 := H942.subst_ (d := 146) (b := false) rfl hb943
 clear H942
 (try simp only [decide_eq_false_iff_not] at hb943)
 have hk3 := hb943
 refine gR fun K982 hK982 => ?_
 refine V H981 (op_eqi rfl (H981.ev rfl) (ev_c _ _)) fun _ H984 => ?_
 refine Va H984 fun _ H986 => ?_
 refine gE hK982 ?_
 clear H981 H984
 refine gw_cond H986 rfl (fun hb987 => ?_) (fun hb987 => ?_)
 ·
  have H988 := H986.subst_ (d := 152) (b := true) rfl hb987
  clear H986
  (try simp only [decide_eq_true_eq] at hb987)
  exfalso; unfold kdOK at hkd; omega
 have H989 := H986.subst_ (d := 152) (b := false) rfl hb987
 clear H986
 (try simp only [decide_eq_false_iff_not] at hb987)
 have hk4 := hb987
 refine gR fun K990 hK990 => ?_
 refine V H989 (op_eqi rfl (H989.ev rfl) (ev_c _ _)) fun _ H992 => ?_
 refine Va H992 fun _ H994 => ?_
 refine gE hK990 ?_
 clear H989 H992
 refine gw_cond H994 rfl (fun hb995 => ?_) (fun hb995 => ?_)
 ·
  have H996 := H994.subst_ (d := 161) (b := true) rfl hb995
  clear H994
  (try simp only [decide_eq_true_eq] at hb995)
  have hk5 := hb995
  refine gR fun K997 hK997 => ?_
  refine Vf H996 (gwfld38_1 _ _) fun _ H999 => ?_
  refine Vl H999 gwagg22 (O748.get 0 rfl) fun _ H1001 => ?_
  refine Vf H1001 (gwfld93_3 _ _) fun _ H1003 => ?_
  refine Vl H1003 gwagg3 (O748.get 2 rfl) fun _ H1005 => ?_
  clear H996 H999 H1001 H1003
  obtain ⟨hr1006, hc1007, hC1008⟩ := cut_hi (P := Tryz.prog) (d := (Kd.int .u8)) (t := 22) (e := 5) Tryz.underlying22 gwsiz5 A590 c591 ((files.getD i0.toNat z38).f1) hl592 n (by omega) (by omega)
  refine V H1005 (op_cut Tryz.underlying22 hr1006 rfl (H1005.ev rfl) rfl (some_ev (H1005.ev rfl))) fun _ H1010 => ?_
  refine Vf H1010 (gwfld38_1 _ _) fun _ H1012 => ?_
  clear H1005 H1010
  refine gw_set 0 H1012 O748 rfl (want_none rfl) rfl (op_store1 gwsiz22 rfl (H1012.ev rfl) (H1012.ev rfl) rfl (blk_at (O748.get 0 rfl) rfl) (blkf (O748.get 0 rfl))) ?_
  intro _ w1015 H1014 O1016; clear H1012 O748
  refine gE hK997 ?_
  refine gR fun K1017 hK1017 => ?_
  refine Vf H1014 (gwfld38_2 _ _) fun _ H1019 => ?_
  refine Vl H1019 gwagg3 (O1016.get 0 rfl) fun _ H1021 => ?_
  refine Vf H1021 (gwfld93_3 _ _) fun _ H1023 => ?_
  refine Vl H1023 gwagg3 (O1016.get 2 rfl) fun _ H1025 => ?_
  refine V H1025 (op_gtr rfl (H1025.ev rfl) (H1025.ev rfl)) fun _ H1027 => ?_
  refine gE hK1017 ?_
  clear H1014 H1019 H1021 H1023 H1025
  refine gw_cond H1027 rfl (fun hb1028 => ?_) (fun hb1028 => ?_)
  ·
   have H1029 := H1027.subst_ (d := 173) (b := true) rfl hb1028
   clear H1027
   (try simp only [decide_eq_true_eq] at hb1028)
   refine wp_region_lit ?_
   refine Vf H1029 (gwfld93_3 _ _) fun _ H1031 => ?_
   refine Vl H1031 gwagg3 (O1016.get 2 rfl) fun _ H1033 => ?_
   refine Vf H1033 (gwfld38_2 _ _) fun _ H1035 => ?_
   clear H1029 H1031 H1033
   refine gw_set 0 H1035 O1016 rfl (want_none rfl) rfl (op_store1 gwsiz3 rfl (H1035.ev rfl) (H1035.ev rfl) rfl (blk_at (O1016.get 0 rfl) rfl) (blkf (O1016.get 0 rfl))) ?_
   intro _ w1038 H1037 O1039; clear H1035 O1016
   have O1040 : Own w w1038 [Bk g560 [.string ((files.getD i0.toNat z38).f0), .slice A590 ((((files.getD i0.toNat z38).f1).take n.toNat).length) c591, J n] 38, Bk g402 [.slice none 0 0, J 0, J 0, .bool false] 34, Bk g396 [J kd, .string nm, .string dest, J n, .slice Ay y.length cy] 93, Bk g390 [.slice Af files.length cf, J d.most, J fu, .bool d.down] 34] := O1039
   clear O1039
   refine wpList_nil ?_
   refine gw_blk ?_
   refine gw_nx (hK749 _ _ ?_)
   refine gR fun K1041 hK1041 => ?_
   refine V H1037 (op_loadn gwagg34 gwsiz34 rfl (H1037.ev rfl) (O1040.get 3 rfl) rfl rfl) fun _ H1043 => ?_
   refine V H1043 (op_loadn gwagg38 gwsiz38 rfl (H1043.ev rfl) (O1040.get 0 rfl) rfl rfl) fun _ H1045 => ?_
   clear H1037 H1043
   have O1049 := O1040.void
   clear O1040
   have O1051 : Own w w1038 [Chunk.void, Bk g560 [.string ((files.getD i0.toNat z38).f0), .slice A590 ((((files.getD i0.toNat z38).f1).take n.toNat).length) c591, J n] 38, Bk g402 [.slice none 0 0, J 0, J 0, .bool false] 34, Bk g396 [J kd, .string nm, .string dest, J n, .slice Ay y.length cy] 93, Bk g390 [.slice Af files.length cf, J d.most, J fu, .bool d.down] 34] := O1049
   clear O1049
   refine Wk H1045 Tryz.func10 rfl (ar_cons (H1045.ev rfl) (ar_cons (H1045.ev rfl) ar_nil)) (with_own Af cf files d.most fu d.down ((files.getD i0.toNat z38).f0) A590 c591 (((files.getD i0.toNat z38).f1).take n.toNat) n hP 0 rfl O1051 (F_up O1051 hP hF _) hcf (F_up O1051 hP (Kd.F_take (m := n.toNat) hC593 (by omega)) _) hc1007 hlf) ?_
   rintro e1052 w1053 ⟨A1046, c1047, S1048, rfl, hb1054⟩
   refine ⟨_, rfl, fun _ H1056 => ?_⟩
   have O1057 := O1051.calls 0 rfl hb1054
   clear H1045 O1051 hb1054
   refine gw_setn 2 H1056 O1057 rfl (want_none rfl) rfl (op_storen gwsiz34 rfl (H1056.ev rfl) (H1056.ev rfl) (O1057.get 2 rfl) rfl (by simp) (by simp [Value.oneCell'])) ?_
   intro _ w1061 H1060 O1062; clear H1056 O1057
   refine Vc H1060 fun _ H1064 => ?_
   refine gE hK1041 ?_
   refine wp_ret ?_
   clear H1060
   refine gw_rets2 H1064 rfl (rv_celln H1064 rfl gwagg34 gwsiz34 (O1062.get 2 rfl) rfl) (rv_tmp H1064 rfl) ?_
   have ef_ : fu = decF d.fuse := hfud.1
   rw [ef_]
   exact do_new hP (((does_go (f := ofS (files.getD i0.toNat z38)) hdn (.inr ⟨by omega, hgd, fun h_ => by omega, hn4, fun h_ => (show ¬ (n < 0 ∨ ((files.getD i0.toNat z38).f1.length : Int) < n) by omega)⟩)).trans (step_on (by omega) hfu.1)).trans (congrArg (·, (0 : Int)) (ks5 (by omega)))) (with_upd (d := d) (h := fun f => { f with b := f.b.take n.toNat, sf := mn f.sf n }) hd hw hgd (by have hq_ : n = mn (files.getD i0.toNat z38).f2 n := (by unfold mn; split <;> omega); exact congrArg (PF.mk _ _) hq_) hxn) O1062 0 rfl
  have H1065 := H1027.subst_ (d := 173) (b := false) rfl hb1028
  clear H1027
  (try simp only [decide_eq_false_iff_not, Int.not_lt] at hb1028)
  refine wp_skip ?_
  refine gw_blk ?_
  refine gw_nx (hK749 _ _ ?_)
  refine gR fun K1066 hK1066 => ?_
  refine V H1065 (op_loadn gwagg34 gwsiz34 rfl (H1065.ev rfl) (O1016.get 3 rfl) rfl rfl) fun _ H1068 => ?_
  refine V H1068 (op_loadn gwagg38 gwsiz38 rfl (H1068.ev rfl) (O1016.get 0 rfl) rfl rfl) fun _ H1070 => ?_
  clear H1065 H1068
  have O1074 := O1016.void
  clear O1016
  have O1076 : Own w w1015 [Chunk.void, Bk g560 [.string ((files.getD i0.toNat z38).f0), .slice A590 ((((files.getD i0.toNat z38).f1).take n.toNat).length) c591, J ((files.getD i0.toNat z38).f2)] 38, Bk g402 [.slice none 0 0, J 0, J 0, .bool false] 34, Bk g396 [J kd, .string nm, .string dest, J n, .slice Ay y.length cy] 93, Bk g390 [.slice Af files.length cf, J d.most, J fu, .bool d.down] 34] := O1074
  clear O1074
  refine Wk H1070 Tryz.func10 rfl (ar_cons (H1070.ev rfl) (ar_cons (H1070.ev rfl) ar_nil)) (with_own Af cf files d.most fu d.down ((files.getD i0.toNat z38).f0) A590 c591 (((files.getD i0.toNat z38).f1).take n.toNat) ((files.getD i0.toNat z38).f2) hP 0 rfl O1076 (F_up O1076 hP hF _) hcf (F_up O1076 hP (Kd.F_take (m := n.toNat) hC593 (by omega)) _) hc1007 hlf) ?_
  rintro e1077 w1078 ⟨A1071, c1072, S1073, rfl, hb1079⟩
  refine ⟨_, rfl, fun _ H1081 => ?_⟩
  have O1082 := O1076.calls 0 rfl hb1079
  clear H1070 O1076 hb1079
  refine gw_setn 2 H1081 O1082 rfl (want_none rfl) rfl (op_storen gwsiz34 rfl (H1081.ev rfl) (H1081.ev rfl) (O1082.get 2 rfl) rfl (by simp) (by simp [Value.oneCell'])) ?_
  intro _ w1086 H1085 O1087; clear H1081 O1082
  refine Vc H1085 fun _ H1089 => ?_
  refine gE hK1066 ?_
  refine wp_ret ?_
  clear H1085
  refine gw_rets2 H1089 rfl (rv_celln H1089 rfl gwagg34 gwsiz34 (O1087.get 2 rfl) rfl) (rv_tmp H1089 rfl) ?_
  have ef_ : fu = decF d.fuse := hfud.1
  rw [ef_]
  exact do_new hP (((does_go (f := ofS (files.getD i0.toNat z38)) hdn (.inr ⟨by omega, hgd, fun h_ => by omega, hn4, fun h_ => (show ¬ (n < 0 ∨ ((files.getD i0.toNat z38).f1.length : Int) < n) by omega)⟩)).trans (step_on (by omega) hfu.1)).trans (congrArg (·, (0 : Int)) (ks5 (by omega)))) (with_upd (d := d) (h := fun f => { f with b := f.b.take n.toNat, sf := mn f.sf n }) hd hw hgd (by have hq_ : (files.getD i0.toNat z38).f2 = mn (files.getD i0.toNat z38).f2 n := (by unfold mn; split <;> omega); exact congrArg (PF.mk _ _) hq_) hxn) O1087 0 rfl
 have H1090 := H994.subst_ (d := 161) (b := false) rfl hb995
 clear H994
 (try simp only [decide_eq_false_iff_not] at hb995)
 have hk5 := hb995
 refine gR fun K1091 hK1091 => ?_
 refine V H1090 (op_eqi rfl (H1090.ev rfl) (ev_c _ _)) fun _ H1093 => ?_
 refine Va H1093 fun _ H1095 => ?_
 refine gE hK1091 ?_
 clear H1090 H1093
 refine gw_cond H1095 rfl (fun hb1096 => ?_) (fun hb1096 => ?_)
 ·
  have H1097 := H1095.subst_ (d := 177) (b := true) rfl hb1096
  clear H1095
  (try simp only [decide_eq_true_eq] at hb1096)
  exfalso; unfold kdOK at hkd; omega
 have H1098 := H1095.subst_ (d := 177) (b := false) rfl hb1096
 clear H1095
 (try simp only [decide_eq_false_iff_not] at hb1096)
 exfalso; omega
end GRef1_
export GRef1_ (kdOK do_calls)
section
open Go.Maps
theorem drop_of {files : List S38} {i : Nat} (z : S38) (hi : i < files.length) : (files.drop i).map ofS = ofS (files.getD i z) :: (files.drop (i + 1)).map ofS := by
  have e : files.getD i z = files[i] := by simp [List.getD_eq_getElem?_getD, List.getElem?_eq_getElem hi]
  rw [List.drop_eq_getElem_cons hi, e]
  rfl
theorem keepN_at {keep : List Int} {i : Nat} {loose : Int} (hi : i < keep.length) : keepN (keep.drop i) loose = mn (mx (keep.getD i (0 : Int)) 0) loose := by
  have e : keep.getD i (0 : Int) = keep[i] := by simp [List.getD_eq_getElem?_getD, List.getElem?_eq_getElem hi]
  rw [List.drop_eq_getElem_cons hi, e]
  rfl
theorem keepN_past {keep : List Int} {i : Nat} {loose : Int} (hi : keep.length ≤ i) : keepN (keep.drop i) loose = 0 := by
  rw [List.drop_eq_nil_of_le hi]
  rfl
end
namespace GRef3_
theorem between_calls (n lo hi : Int) (w : World) (h : lo ≤ hi) :
    Calls Tryz.prog 49 #[.int .i64 n, .int .i64 lo, .int .i64 hi] w fun e w' => e = .returned (.int .i64 (mn (mx n lo) hi)) ∧ Below w.heap.size w w' := by
 refine gw_start (N := 16) (vs := [J n, J lo, J hi]) Tryz.func49 rfl rfl (by simp) fun a HF HO => ?_
 replace HO : Own w w [] := HO
 refine gR fun K1 hK1 => ?_
 refine Vc HF ?_
 intro _ H3; clear HF
 refine gE hK1 ?_
 refine gw_seq fun K4 hK4 => ?_
 refine gR fun K5 hK5 => ?_
 refine Vm H3 fun _ H7 => ?_
 refine Vm H7 fun _ H9 => ?_
 refine V H9 (op_lss rfl (H9.ev rfl) (H9.ev rfl)) fun _ H11 => ?_
 refine gE hK5 ?_
 clear H3 H7 H9
 refine gw_cond H11 rfl (fun hb12 => ?_) (fun hb12 => ?_)
 ·
  have H13 := H11.subst_ (d := 9) (b := true) rfl hb12
  clear H11
  (try simp only [decide_eq_true_eq] at hb12)
  refine gR fun K14 hK14 => ?_
  refine Vm H13 fun _ H16 => ?_
  refine Va H16 fun _ H18 => ?_
  refine gE hK14 ?_
  refine wp_ret ?_
  clear H13 H16
  refine gw_thr ?_
  refine gw_ret1 H18 rfl rfl ?_
  exact ⟨by congr 2; unfold mn mx; (repeat' split) <;> omega, HO.below⟩
 have H19 := H11.subst_ (d := 9) (b := false) rfl hb12
 clear H11
 (try simp only [decide_eq_false_iff_not, Int.not_lt] at hb12)
 refine gS hK4 ?_
 refine gw_seq fun K20 hK20 => ?_
 refine gR fun K21 hK21 => ?_
 refine Vm H19 fun _ H23 => ?_
 refine Vm H23 fun _ H25 => ?_
 refine V H25 (op_gtr rfl (H25.ev rfl) (H25.ev rfl)) fun _ H27 => ?_
 refine gE hK21 ?_
 clear H19 H23 H25
 refine gw_cond H27 rfl (fun hb28 => ?_) (fun hb28 => ?_)
 ·
  have H29 := H27.subst_ (d := 13) (b := true) rfl hb28
  clear H27
  (try simp only [decide_eq_true_eq] at hb28)
  refine gR fun K30 hK30 => ?_
  refine Vm H29 fun _ H32 => ?_
  refine Va H32 fun _ H34 => ?_
  refine gE hK30 ?_
  refine wp_ret ?_
  clear H29 H32
  refine gw_thr ?_
  refine gw_ret1 H34 rfl rfl ?_
  exact ⟨by congr 2; unfold mn mx; (repeat' split) <;> omega, HO.below⟩
 have H35 := H27.subst_ (d := 13) (b := false) rfl hb28
 clear H27
 (try simp only [decide_eq_false_iff_not, Int.not_lt] at hb28)
 refine gS hK20 ?_
 refine gR fun K36 hK36 => ?_
 refine Vm H35 fun _ H38 => ?_
 refine Va H38 fun _ H40 => ?_
 refine gE hK36 ?_
 refine wp_ret ?_
 clear H35 H38
 refine gw_ret1 H40 rfl rfl ?_
 exact ⟨by congr 2; unfold mn mx; (repeat' split) <;> omega, HO.below⟩
theorem crash_ref (P : Nat → Prop) (Af : Option Addr) (cf : Nat) (files : List S38) (most fuse : Int) (down : Bool) (Ak : Option Addr) (ck : Nat) (keep : List Int) (w : World) (hP : ∀ k, P k → k < w.heap.size) (hF : Kd.F k38 w P Af files.length files) (hcf : files.length ≤ cf) (hlf : files.length ≤ 1000000) (hk : Kd.C (Kd.int .i64) w Ak keep.length keep) (hck : keep.length ≤ ck) (hsf0 : ∀ x ∈ files, 0 ≤ x.f2 ∧ x.f2 ≤ x.f1.length ∧ x.f1.length ≤ 140737488355327) :
    Calls Tryz.prog 20 #[.agg #[.slice Af files.length cf, .int .i64 most, .int .i64 fuse, .bool down], .slice Ak keep.length ck] w fun e w' => ∃ files' A' c', files'.map ofS = (crashF (files.map ofS) keep).1 ∧ e = .returned (.agg #[.slice A' files'.length c', .int .i64 most, .int .i64 0, .bool false]) ∧ Kd.V k38 38 w' w.heap.size (fun k => P k ∨ w.heap.size ≤ k) (.slice A' files'.length c') files' ∧ Below w.heap.size w w' ∧ ∀ ad, A' = some ad → (P ad.block ∨ w.heap.size ≤ ad.block) ∧ ad.block < w'.heap.size := by
 refine gw_start (N := 65) (vs := [.agg #[.slice Af files.length cf, J most, J fuse, .bool down], .slice Ak keep.length ck]) Tryz.func20 rfl rfl (by simp) fun a HF HO => ?_
 replace HO : Own w w [] := HO
 refine gR fun K1 hK1 => ?_
 refine gw_new HF HO (want_none rfl) rfl (by decide) (op_box rfl (HF.ev rfl)) ?_
 intro g2 _ w4 H5 O6; clear HF HO
 have O7 : Own w w4 [Bk g2 [.slice Af files.length cf, J most, J fuse, .bool down] 34] := O6
 clear O6
 refine gw_new H5 O7 (want_none rfl) rfl (by decide) (op_alloc gwzer34 rfl) ?_
 intro g8 _ w10 H11 O12; clear H5 O7
 have O13 : Own w w10 [Bk g8 [.slice none 0 0, J 0, J 0, .bool false] 34, Bk g2 [.slice Af files.length cf, J most, J fuse, .bool down] 34] := O12
 clear O12
 refine gE hK1 ?_
 refine gR fun K14 hK14 => ?_
 refine Vf H11 (gwfld34_3 _ _) fun _ H16 => ?_
 clear H11
 refine gw_set 1 H16 O13 rfl (want_none rfl) rfl (op_store1 gwsiz4 rfl (H16.ev rfl) (ev_c _ _) rfl (blk_at (O13.get 1 rfl) rfl) (blkf (O13.get 1 rfl))) ?_
 intro _ w19 H18 O20; clear H16 O13
 refine gE hK14 ?_
 refine gR fun K21 hK21 => ?_
 refine Vf H18 (gwfld34_2 _ _) fun _ H23 => ?_
 clear H18
 refine gw_set 1 H23 O20 rfl (want_none rfl) rfl (op_store1 gwsiz3 rfl (H23.ev rfl) (ev_c _ _) rfl (blk_at (O20.get 1 rfl) rfl) (blkf (O20.get 1 rfl))) ?_
 intro _ w26 H25 O27; clear H23 O20
 refine gE hK21 ?_
 refine gR fun K28 hK28 => ?_
 refine gw_plit0 k38 P (e := 38) H25 O27 (want_none rfl) rfl (by decide) (op_bslice (by kernel_rfl) rfl pt_nil) hP ?_
 intro A29 S30 _ w32 H33 O34; clear H25 O27
 have O35 : Own w w32 [Chunk.prow w P k38 38 w.heap.size S30 (.slice A29 (([] : List S38).length) 0) ([] : List S38), Bk g8 [.slice none 0 0, J 0, J 0, .bool false] 34, Bk g2 [.slice Af files.length cf, J most, J 0, .bool false] 34] := O34
 clear O34
 refine Va H33 fun _ H37 => ?_
 refine gE hK28 ?_
 refine gR fun K38 hK38 => ?_
 refine Vc H37 fun _ H40 => ?_
 refine gE hK38 ?_
 refine gw_seq fun K41 hK41 => ?_
 refine gR fun K42 hK42 => ?_
 refine Vc H40 fun _ H44 => ?_
 refine gE hK42 ?_
 clear H33 H37 H40
 refine wp_block ?_
 refine gw_loop (fun m_ a_ w_ => ∃ (i : Int) (out : List S38) (Ao : Option Addr) (co : Nat) (So : Nat → Prop) (at_ : Int), Fr 65 a_ [(7, J i), (5, .slice Ao out.length co), (6, J at_), (1, .slice Ak keep.length ck), (2, .pointer (some ⟨g2, 0, none⟩)), (4, .pointer (some ⟨g8, 0, none⟩))] ∧ Own w w_ [Chunk.prow w P k38 38 w.heap.size So (.slice Ao out.length co) out, Bk g8 [.slice none 0 0, J 0, J 0, .bool false] 34, Bk g2 [.slice Af files.length cf, J most, J 0, .bool false] 34] ∧ (0 ≤ i ∧ i ≤ files.length) ∧ (0 ≤ at_ ∧ at_ ≤ i) ∧ (out.map ofS ++ (crashF ((files.drop i.toNat).map ofS) (keep.drop at_.toNat)).1 = (crashF (files.map ofS) keep).1) ∧ ((out.length : Int) = i) ∧ m_ = (files.length - i.toNat)) ((files.length - (0 : Int).toNat)) ?_ ?_
 ·
  refine ⟨0, [], A29, 0, _, 0, (H44.pick (t := 7) rfl (H44.pick (t := 5) rfl (H44.pick (t := 6) rfl (H44.pick (t := 1) rfl (H44.pick (t := 2) rfl (H44.pick (t := 4) rfl H44.nil)))))), O35.sel [0, 1, 2] (by decide), ?_, ?_, ?_, ?_, rfl⟩
  ·
   omega
  ·
   omega
  ·
   simp
  simp
 rintro m46 _ w48 ⟨i, out, Ao, co, So, at_, H49, O50, hi, hat, hW, hlo, hm51⟩
 refine gw_seq fun K52 hK52 => ?_
 refine gR fun K53 hK53 => ?_
 refine Vm H49 fun _ H55 => ?_
 refine Vf H55 (gwfld34_0 _ _) fun _ H57 => ?_
 refine Vl H57 gwagg32 (O50.get 2 rfl) fun _ H59 => ?_
 refine V H59 (op_len Tryz.underlying32 rfl (H59.ev rfl)) fun _ H61 => ?_
 refine V H61 (op_lss rfl (H61.ev rfl) (H61.ev rfl)) fun _ H63 => ?_
 refine gE hK53 ?_
 clear H49 H55 H57 H59 H61
 refine gw_cond H63 rfl (fun hb64 => ?_) (fun hb64 => ?_)
 ·
  have H65 := H63.subst_ (d := 18) (b := true) rfl hb64
  clear H63
  (try simp only [decide_eq_true_eq] at hb64)
  refine gS hK52 ?_
  refine gw_seq fun K66 hK66 => ?_
  refine wp_block ?_
  refine gR fun K67 hK67 => ?_
  refine Vf H65 (gwfld34_0 _ _) fun _ H69 => ?_
  refine Vl H69 gwagg32 (O50.get 2 rfl) fun _ H71 => ?_
  refine Vm H71 fun _ H73 => ?_
  clear H65 H69 H71
  obtain ⟨ad74, cs77, hA75, hl78, hK79, hc76, _⟩ := Kd.F_get hF z38 i (by omega) (by omega)
  obtain ⟨A80, c81, rfl, hl82, hC83⟩ := k38_openF hK79
  clear hl78
  refine V H73 (op_index Tryz.underlying32 gwsiz38 rfl (H73.ev rfl) (H73.ev rfl) hA75 (⟨by omega, by omega⟩)) fun _ H85 => ?_
  refine V H85 (op_loadc gwagg38 gwsiz38 rfl (H85.ev rfl) rfl (cells0 O50 hc76)) fun _ H87 => ?_
  clear H73 H85
  have hsf := hsf0 (files.getD i.toNat z38) (getD_mem files i.toNat (by omega))
  have hdo := drop_of z38 (show i.toNat < files.length by omega)
  refine gw_new H87 O50 (want_none rfl) rfl (by decide) (op_alloc gwzer38 rfl) ?_
  intro g88 _ w90 H91 O92; clear H87 O50
  have O93 : Own w w90 [Bk g88 [.string (⟨#[]⟩ : ByteArray), .slice none 0 0, J 0] 38, Chunk.prow w P k38 38 w.heap.size So (.slice Ao out.length co) out, Bk g8 [.slice none 0 0, J 0, J 0, .bool false] 34, Bk g2 [.slice Af files.length cf, J most, J 0, .bool false] 34] := O92
  clear O92
  refine gw_setn 0 H91 O93 rfl (want_none rfl) rfl (op_storen gwsiz38 rfl (H91.ev rfl) (H91.ev rfl) (O93.get 0 rfl) rfl (by simp) (by simp [Value.oneCell'])) ?_
  intro _ w96 H95 O97; clear H91 O93
  refine gE hK67 ?_
  refine gR fun K98 hK98 => ?_
  refine Vf H95 (gwfld38_1 _ _) fun _ H100 => ?_
  refine Vl H100 gwagg22 (O97.get 0 rfl) fun _ H102 => ?_
  refine V H102 (op_len Tryz.underlying22 rfl (H102.ev rfl)) fun _ H104 => ?_
  refine Vf H104 (gwfld38_2 _ _) fun _ H106 => ?_
  refine Vl H106 gwagg3 (O97.get 0 rfl) fun _ H108 => ?_
  refine V H108 (op_sub rfl (H108.ev rfl) (H108.ev rfl) (by omega)) fun _ H110 => ?_
  refine Va H110 fun _ H112 => ?_
  refine gE hK98 ?_
  refine gw_seq fun K113 hK113 => ?_
  refine gR fun K114 hK114 => ?_
  refine Vm H112 fun _ H116 => ?_
  clear H95 H100 H102 H104 H106 H108 H110 H112
  refine V H116 (op_gtr rfl (H116.ev rfl) (ev_c _ _)) fun _ H118 => ?_
  refine gE hK114 ?_
  clear H116
  refine gw_cond H118 rfl (fun hb119 => ?_) (fun hb119 => ?_)
  ·
   have H120 := H118.subst_ (d := 33) (b := true) rfl hb119
   clear H118
   (try simp only [decide_eq_true_eq] at hb119)
   refine gR fun K121 hK121 => ?_
   refine Vc H120 fun _ H123 => ?_
   refine gE hK121 ?_
   refine gw_seq fun K124 hK124 => ?_
   refine gR fun K125 hK125 => ?_
   refine Vm H123 fun _ H127 => ?_
   refine Vm H127 fun _ H129 => ?_
   refine V H129 (op_len Tryz.underlying48 rfl (H129.ev rfl)) fun _ H131 => ?_
   refine V H131 (op_lss rfl (H131.ev rfl) (H131.ev rfl)) fun _ H133 => ?_
   refine gE hK125 ?_
   clear H120 H123 H127 H129 H131
   refine gw_cond H133 rfl (fun hb134 => ?_) (fun hb134 => ?_)
   ·
    have H135 := H133.subst_ (d := 37) (b := true) rfl hb134
    clear H133
    (try simp only [decide_eq_true_eq] at hb134)
    have h1_ : ¬ ((files.getD i.toNat z38).f1.length : Int) - (files.getD i.toNat z38).f2 = 0 := by omega
    have hkn1 : keepN (keep.drop at_.toNat) (((files.getD i.toNat z38).f1.length : Int) - (files.getD i.toNat z38).f2) = (mn (mx (keep.getD at_.toNat (0 : Int)) 0) (((files.getD i.toNat z38).f1.length : Int) - (files.getD i.toNat z38).f2)) := keepN_at (by omega)
    have hke : 0 ≤ keepN (keep.drop at_.toNat) (((files.getD i.toNat z38).f1.length : Int) - (files.getD i.toNat z38).f2) ∧ keepN (keep.drop at_.toNat) (((files.getD i.toNat z38).f1.length : Int) - (files.getD i.toNat z38).f2) ≤ (((files.getD i.toNat z38).f1.length : Int) - (files.getD i.toNat z38).f2) := keepN_in _ (by omega)
    rw [hkn1] at hke
    have hkd : (keep.drop at_.toNat).drop 1 = keep.drop (at_ + 1).toNat := by rw [List.drop_drop]; congr 1; omega
    have hl2 : (((files.getD i.toNat z38).f1.take ((files.getD i.toNat z38).f2 + (mn (mx (keep.getD at_.toNat (0 : Int)) 0) (((files.getD i.toNat z38).f1.length : Int) - (files.getD i.toNat z38).f2))).toNat).length : Int) = (files.getD i.toNat z38).f2 + (mn (mx (keep.getD at_.toNat (0 : Int)) 0) (((files.getD i.toNat z38).f1.length : Int) - (files.getD i.toNat z38).f2)) := by rw [List.length_take]; omega
    refine wp_region_lit ?_
    refine Vm H135 fun _ H137 => ?_
    refine Vm H137 fun _ H139 => ?_
    clear H135 H137
    obtain ⟨ad140, cs143, hA141, hl144, hK145, hc142⟩ := Kd.C_get hk (0 : Int) at_ (by omega) (by omega)
    obtain rfl := id hK145
    clear hl144
    refine V H139 (op_index Tryz.underlying48 gwsiz3 rfl (H139.ev rfl) (H139.ev rfl) hA141 (⟨by omega, by omega⟩)) fun _ H147 => ?_
    refine V H147 (op_load1 gwagg3 rfl (H147.ev rfl) (O97.cell0 (at0 hc142))) fun _ H149 => ?_
    refine Vm H149 fun _ H151 => ?_
    clear H139 H147 H149
    refine Wk H151 Tryz.func49 rfl (ar_cons (H151.ev rfl) (ar_cons (ev_c _ _) (ar_cons (H151.ev rfl) ar_nil))) (between_calls (keep.getD at_.toNat (0 : Int)) 0 ((((files.getD i.toNat z38).f1.length) : Int) - ((files.getD i.toNat z38).f2)) _ (by omega)) ?_
    rintro e152 w153 ⟨rfl, hb154⟩
    refine ⟨_, rfl, fun _ H156 => ?_⟩
    have O157 := O97.after hb154
    clear H151 O97 hb154
    refine Va H156 fun _ H160 => ?_
    refine gE hK124 ?_
    refine gR fun K161 hK161 => ?_
    refine Vm H160 fun _ H163 => ?_
    refine V H163 (op_add rfl (H163.ev rfl) (ev_c _ _) (by omega)) fun _ H165 => ?_
    refine Va H165 fun _ H167 => ?_
    refine gE hK161 ?_
    refine gR fun K168 hK168 => ?_
    refine Vf H167 (gwfld38_1 _ _) fun _ H170 => ?_
    refine Vl H170 gwagg22 (O157.get 0 rfl) fun _ H172 => ?_
    refine Vf H172 (gwfld38_2 _ _) fun _ H174 => ?_
    refine Vl H174 gwagg3 (O157.get 0 rfl) fun _ H176 => ?_
    clear H156 H160 H163 H165 H167 H170 H172 H174
    refine Vm H176 fun _ H178 => ?_
    refine V H178 (op_add rfl (H178.ev rfl) (H178.ev rfl) (by omega)) fun _ H180 => ?_
    clear H176 H178
    obtain ⟨hr181, hc182, hC183⟩ := cut_hi (P := Tryz.prog) (d := (Kd.int .u8)) (t := 22) (e := 5) Tryz.underlying22 gwsiz5 A80 c81 ((files.getD i.toNat z38).f1) hl82 (((files.getD i.toNat z38).f2) + (mn (mx (keep.getD at_.toNat (0 : Int)) 0) ((((files.getD i.toNat z38).f1.length) : Int) - ((files.getD i.toNat z38).f2)))) (by omega) (by omega)
    refine V H180 (op_cut Tryz.underlying22 hr181 rfl (H180.ev rfl) rfl (some_ev (H180.ev rfl))) fun _ H185 => ?_
    refine Vf H185 (gwfld38_1 _ _) fun _ H187 => ?_
    clear H180 H185
    refine gw_set 0 H187 O157 rfl (want_none rfl) rfl (op_store1 gwsiz22 rfl (H187.ev rfl) (H187.ev rfl) rfl (blk_at (O157.get 0 rfl) rfl) (blkf (O157.get 0 rfl))) ?_
    intro _ w190 H189 O191; clear H187 O157
    refine gE hK168 ?_
    refine wp_region_lit ?_
    refine Vf H189 (gwfld38_1 _ _) fun _ H193 => ?_
    refine Vl H193 gwagg22 (O191.get 0 rfl) fun _ H195 => ?_
    refine V H195 (op_len Tryz.underlying22 rfl (H195.ev rfl)) fun _ H197 => ?_
    clear H189 H193 H195
    have H198 := H197.conv (v' := J ((files.getD i.toNat z38).f2 + (mn (mx (keep.getD at_.toNat (0 : Int)) 0) (((files.getD i.toNat z38).f1.length : Int) - (files.getD i.toNat z38).f2)))) (congrArg (Value.int .i64) hl2)
    clear H197
    refine Vf H198 (gwfld38_2 _ _) fun _ H200 => ?_
    clear H198
    refine gw_set 0 H200 O191 rfl (want_none rfl) rfl (op_store1 gwsiz3 rfl (H200.ev rfl) (H200.ev rfl) rfl (blk_at (O191.get 0 rfl) rfl) (blkf (O191.get 0 rfl))) ?_
    intro _ w203 H202 O204; clear H200 O191
    refine gE hK113 ?_
    refine wp_region_lit ?_
    refine Vm H202 fun _ H206 => ?_
    refine V H206 (op_loadn gwagg38 gwsiz38 rfl (H206.ev rfl) (O204.get 0 rfl) rfl rfl) fun _ H208 => ?_
    clear H202 H206
    refine gw_news (O := .cells #[.string ((files.getD i.toNat z38).f0), .slice A80 ((((files.getD i.toNat z38).f1).take (((files.getD i.toNat z38).f2) + (mn (mx (keep.getD at_.toNat (0 : Int)) 0) ((((files.getD i.toNat z38).f1.length) : Int) - ((files.getD i.toNat z38).f2)))).toNat).length) c81, J ((files.getD i.toNat z38).f2 + (mn (mx (keep.getD at_.toNat (0 : Int)) 0) (((files.getD i.toNat z38).f1.length : Int) - (files.getD i.toNat z38).f2)))] 38 (0, 0)) (n := 1) H208 O204 (want_none rfl) rfl (by decide) (op_bslice (by kernel_rfl) rfl (pt_cons (H208.ev rfl) pt_nil)) ?_
    intro g209 _ w211 H212 O213; clear H208 O204
    have O214 : Own w w211 [Bk g209 [.string ((files.getD i.toNat z38).f0), .slice A80 ((((files.getD i.toNat z38).f1).take (((files.getD i.toNat z38).f2) + (mn (mx (keep.getD at_.toNat (0 : Int)) 0) ((((files.getD i.toNat z38).f1.length) : Int) - ((files.getD i.toNat z38).f2)))).toNat).length) c81, J ((files.getD i.toNat z38).f2 + (mn (mx (keep.getD at_.toNat (0 : Int)) 0) (((files.getD i.toNat z38).f1.length : Int) - (files.getD i.toNat z38).f2)))] 38, Bk g88 [.string ((files.getD i.toNat z38).f0), .slice A80 ((((files.getD i.toNat z38).f1).take (((files.getD i.toNat z38).f2) + (mn (mx (keep.getD at_.toNat (0 : Int)) 0) ((((files.getD i.toNat z38).f1.length) : Int) - ((files.getD i.toNat z38).f2)))).toNat).length) c81, J ((files.getD i.toNat z38).f2 + (mn (mx (keep.getD at_.toNat (0 : Int)) 0) (((files.getD i.toNat z38).f1.length : Int) - (files.getD i.toNat z38).f2)))] 38, Chunk.prow w P k38 38 w.heap.size So (.slice Ao out.length co) out, Bk g8 [.slice none 0 0, J 0, J 0, .bool false] 34, Bk g2 [.slice Af files.length cf, J most, J 0, .bool false] 34] := O213
    clear O213
    refine gw_pappend1 k38 (cs := [.string ((files.getD i.toNat z38).f0), .slice A80 ((((files.getD i.toNat z38).f1).take (((files.getD i.toNat z38).f2) + (mn (mx (keep.getD at_.toNat (0 : Int)) 0) ((((files.getD i.toNat z38).f1.length) : Int) - ((files.getD i.toNat z38).f2)))).toNat).length) c81, J ((files.getD i.toNat z38).f2 + (mn (mx (keep.getD at_.toNat (0 : Int)) 0) (((files.getD i.toNat z38).f1.length : Int) - (files.getD i.toNat z38).f2)))]) (p := (⟨(files.getD i.toNat z38).f0, (((files.getD i.toNat z38).f1).take (((files.getD i.toNat z38).f2) + (mn (mx (keep.getD at_.toNat (0 : Int)) 0) ((((files.getD i.toNat z38).f1.length) : Int) - ((files.getD i.toNat z38).f2)))).toNat), (files.getD i.toNat z38).f2 + (mn (mx (keep.getD at_.toNat (0 : Int)) 0) (((files.getD i.toNat z38).f1.length : Int) - (files.getD i.toNat z38).f2))⟩ : S38)) hP H212 (by exact O214.sel [2, 0, 1, 3, 4] (by decide)) (want_none rfl) rfl (by decide) rfl Tryz.underlying32 gwinfo38 rfl (by decide) (by decide) (H212.ev rfl) (H212.ev rfl) (k38_mkF _ _ (⟨(files.getD i.toNat z38).f0, (((files.getD i.toNat z38).f1).take (((files.getD i.toNat z38).f2) + (mn (mx (keep.getD at_.toNat (0 : Int)) 0) ((((files.getD i.toNat z38).f1.length) : Int) - ((files.getD i.toNat z38).f2)))).toNat), (files.getD i.toNat z38).f2 + (mn (mx (keep.getD at_.toNat (0 : Int)) 0) (((files.getD i.toNat z38).f1.length : Int) - (files.getD i.toNat z38).f2))⟩ : S38) hc182 (Kd.F_take (m := (((files.getD i.toNat z38).f2) + (mn (mx (keep.getD at_.toNat (0 : Int)) 0) ((((files.getD i.toNat z38).f1.length) : Int) - ((files.getD i.toNat z38).f2)))).toNat) hC83 (by omega))) O214.below.size (by first | omega | (simp; omega)) ?_
    intro A215 c216 S217 _ w219 H220 O221; clear H212 O214
    have O222 : Own w w219 [Chunk.prow w P k38 38 w.heap.size S217 (.slice A215 ((out ++ [(⟨(files.getD i.toNat z38).f0, (((files.getD i.toNat z38).f1).take (((files.getD i.toNat z38).f2) + (mn (mx (keep.getD at_.toNat (0 : Int)) 0) ((((files.getD i.toNat z38).f1.length) : Int) - ((files.getD i.toNat z38).f2)))).toNat), (files.getD i.toNat z38).f2 + (mn (mx (keep.getD at_.toNat (0 : Int)) 0) (((files.getD i.toNat z38).f1.length : Int) - (files.getD i.toNat z38).f2))⟩ : S38)]).length) c216) (out ++ [(⟨(files.getD i.toNat z38).f0, (((files.getD i.toNat z38).f1).take (((files.getD i.toNat z38).f2) + (mn (mx (keep.getD at_.toNat (0 : Int)) 0) ((((files.getD i.toNat z38).f1.length) : Int) - ((files.getD i.toNat z38).f2)))).toNat), (files.getD i.toNat z38).f2 + (mn (mx (keep.getD at_.toNat (0 : Int)) 0) (((files.getD i.toNat z38).f1.length : Int) - (files.getD i.toNat z38).f2))⟩ : S38)]), Bk g88 [.string ((files.getD i.toNat z38).f0), .slice A80 ((((files.getD i.toNat z38).f1).take (((files.getD i.toNat z38).f2) + (mn (mx (keep.getD at_.toNat (0 : Int)) 0) ((((files.getD i.toNat z38).f1.length) : Int) - ((files.getD i.toNat z38).f2)))).toNat).length) c81, J ((files.getD i.toNat z38).f2 + (mn (mx (keep.getD at_.toNat (0 : Int)) 0) (((files.getD i.toNat z38).f1.length : Int) - (files.getD i.toNat z38).f2)))] 38, Bk g8 [.slice none 0 0, J 0, J 0, .bool false] 34, Bk g2 [.slice Af files.length cf, J most, J 0, .bool false] 34] := O221
    clear O221
    refine Va H220 fun _ H224 => ?_
    clear H220
    refine wpList_nil ?_
    refine gw_blk ?_
    refine gw_nx (hK66 _ _ ?_)
    refine wp_region_lit ?_
    refine Vm H224 fun _ H226 => ?_
    refine V H226 (op_add rfl (H226.ev rfl) (ev_c _ _) (by omega)) fun _ H228 => ?_
    refine Va H228 fun _ H230 => ?_
    clear H224 H226 H228
    refine wpList_nil ?_
    refine gw_nx ⟨_, ?_, i + 1, (out ++ [(⟨(files.getD i.toNat z38).f0, (((files.getD i.toNat z38).f1).take (((files.getD i.toNat z38).f2) + (mn (mx (keep.getD at_.toNat (0 : Int)) 0) ((((files.getD i.toNat z38).f1.length) : Int) - ((files.getD i.toNat z38).f2)))).toNat), (files.getD i.toNat z38).f2 + (mn (mx (keep.getD at_.toNat (0 : Int)) 0) (((files.getD i.toNat z38).f1.length : Int) - (files.getD i.toNat z38).f2))⟩ : S38)]), A215, c216, _, (at_ + 1), (H230.pick (t := 7) rfl (H230.pick (t := 5) rfl (H230.pick (t := 6) rfl (H230.pick (t := 1) rfl (H230.pick (t := 2) rfl (H230.pick (t := 4) rfl H230.nil)))))), O222.sel [0, 2, 3] (by decide), ?_, ?_, ?_, ?_, rfl⟩
    ·
     rw [hm51]; omega
    ·
     omega
    ·
     omega
    ·
     rw [← hW, hdo, crash_go (x := ofS (files.getD i.toNat z38)) h1_ hkn1 hkd, show (i + 1).toNat = i.toNat + 1 by omega]; simp [ofS]
    rw [List.length_append, List.length_singleton]; omega
   have H231 := H133.subst_ (d := 37) (b := false) rfl hb134
   clear H133
   (try simp only [decide_eq_false_iff_not, Int.not_lt] at hb134)
   have h1_ : ¬ ((files.getD i.toNat z38).f1.length : Int) - (files.getD i.toNat z38).f2 = 0 := by omega
   have hkn1 : keepN (keep.drop at_.toNat) (((files.getD i.toNat z38).f1.length : Int) - (files.getD i.toNat z38).f2) = 0 := keepN_past (by omega)
   have hke : 0 ≤ keepN (keep.drop at_.toNat) (((files.getD i.toNat z38).f1.length : Int) - (files.getD i.toNat z38).f2) ∧ keepN (keep.drop at_.toNat) (((files.getD i.toNat z38).f1.length : Int) - (files.getD i.toNat z38).f2) ≤ (((files.getD i.toNat z38).f1.length : Int) - (files.getD i.toNat z38).f2) := keepN_in _ (by omega)
   rw [hkn1] at hke
   have hkd : (keep.drop at_.toNat).drop 1 = keep.drop (at_ + 1).toNat := by rw [List.drop_drop]; congr 1; omega
   have hl2 : (((files.getD i.toNat z38).f1.take ((files.getD i.toNat z38).f2 + 0).toNat).length : Int) = (files.getD i.toNat z38).f2 + 0 := by rw [List.length_take]; omega
   refine gS hK124 ?_
   refine gR fun K232 hK232 => ?_
   refine Vm H231 fun _ H234 => ?_
   refine V H234 (op_add rfl (H234.ev rfl) (ev_c _ _) (by omega)) fun _ H236 => ?_
   refine Va H236 fun _ H238 => ?_
   refine gE hK232 ?_
   refine gR fun K239 hK239 => ?_
   refine Vf H238 (gwfld38_1 _ _) fun _ H241 => ?_
   refine Vl H241 gwagg22 (O97.get 0 rfl) fun _ H243 => ?_
   refine Vf H243 (gwfld38_2 _ _) fun _ H245 => ?_
   refine Vl H245 gwagg3 (O97.get 0 rfl) fun _ H247 => ?_
   refine Vm H247 fun _ H249 => ?_
   clear H231 H234 H236 H238 H241 H243 H245 H247
   refine V H249 (op_add rfl (H249.ev rfl) (H249.ev rfl) (by omega)) fun _ H251 => ?_
   clear H249
   obtain ⟨hr252, hc253, hC254⟩ := cut_hi (P := Tryz.prog) (d := (Kd.int .u8)) (t := 22) (e := 5) Tryz.underlying22 gwsiz5 A80 c81 ((files.getD i.toNat z38).f1) hl82 (((files.getD i.toNat z38).f2) + 0) (by omega) (by omega)
   refine V H251 (op_cut Tryz.underlying22 hr252 rfl (H251.ev rfl) rfl (some_ev (H251.ev rfl))) fun _ H256 => ?_
   refine Vf H256 (gwfld38_1 _ _) fun _ H258 => ?_
   clear H251 H256
   refine gw_set 0 H258 O97 rfl (want_none rfl) rfl (op_store1 gwsiz22 rfl (H258.ev rfl) (H258.ev rfl) rfl (blk_at (O97.get 0 rfl) rfl) (blkf (O97.get 0 rfl))) ?_
   intro _ w261 H260 O262; clear H258 O97
   refine gE hK239 ?_
   refine wp_region_lit ?_
   refine Vf H260 (gwfld38_1 _ _) fun _ H264 => ?_
   refine Vl H264 gwagg22 (O262.get 0 rfl) fun _ H266 => ?_
   refine V H266 (op_len Tryz.underlying22 rfl (H266.ev rfl)) fun _ H268 => ?_
   clear H260 H264 H266
   have H269 := H268.conv (v' := J ((files.getD i.toNat z38).f2 + 0)) (congrArg (Value.int .i64) hl2)
   clear H268
   refine Vf H269 (gwfld38_2 _ _) fun _ H271 => ?_
   clear H269
   refine gw_set 0 H271 O262 rfl (want_none rfl) rfl (op_store1 gwsiz3 rfl (H271.ev rfl) (H271.ev rfl) rfl (blk_at (O262.get 0 rfl) rfl) (blkf (O262.get 0 rfl))) ?_
   intro _ w274 H273 O275; clear H271 O262
   refine gE hK113 ?_
   refine wp_region_lit ?_
   refine Vm H273 fun _ H277 => ?_
   refine V H277 (op_loadn gwagg38 gwsiz38 rfl (H277.ev rfl) (O275.get 0 rfl) rfl rfl) fun _ H279 => ?_
   clear H273 H277
   refine gw_news (O := .cells #[.string ((files.getD i.toNat z38).f0), .slice A80 ((((files.getD i.toNat z38).f1).take (((files.getD i.toNat z38).f2) + 0).toNat).length) c81, J ((files.getD i.toNat z38).f2 + 0)] 38 (0, 0)) (n := 1) H279 O275 (want_none rfl) rfl (by decide) (op_bslice (by kernel_rfl) rfl (pt_cons (H279.ev rfl) pt_nil)) ?_
   intro g280 _ w282 H283 O284; clear H279 O275
   have O285 : Own w w282 [Bk g280 [.string ((files.getD i.toNat z38).f0), .slice A80 ((((files.getD i.toNat z38).f1).take (((files.getD i.toNat z38).f2) + 0).toNat).length) c81, J ((files.getD i.toNat z38).f2 + 0)] 38, Bk g88 [.string ((files.getD i.toNat z38).f0), .slice A80 ((((files.getD i.toNat z38).f1).take (((files.getD i.toNat z38).f2) + 0).toNat).length) c81, J ((files.getD i.toNat z38).f2 + 0)] 38, Chunk.prow w P k38 38 w.heap.size So (.slice Ao out.length co) out, Bk g8 [.slice none 0 0, J 0, J 0, .bool false] 34, Bk g2 [.slice Af files.length cf, J most, J 0, .bool false] 34] := O284
   clear O284
   refine gw_pappend1 k38 (cs := [.string ((files.getD i.toNat z38).f0), .slice A80 ((((files.getD i.toNat z38).f1).take (((files.getD i.toNat z38).f2) + 0).toNat).length) c81, J ((files.getD i.toNat z38).f2 + 0)]) (p := (⟨(files.getD i.toNat z38).f0, (((files.getD i.toNat z38).f1).take (((files.getD i.toNat z38).f2) + 0).toNat), (files.getD i.toNat z38).f2 + 0⟩ : S38)) hP H283 (by exact O285.sel [2, 0, 1, 3, 4] (by decide)) (want_none rfl) rfl (by decide) rfl Tryz.underlying32 gwinfo38 rfl (by decide) (by decide) (H283.ev rfl) (H283.ev rfl) (k38_mkF _ _ (⟨(files.getD i.toNat z38).f0, (((files.getD i.toNat z38).f1).take (((files.getD i.toNat z38).f2) + 0).toNat), (files.getD i.toNat z38).f2 + 0⟩ : S38) hc253 (Kd.F_take (m := (((files.getD i.toNat z38).f2) + 0).toNat) hC83 (by omega))) O285.below.size (by first | omega | (simp; omega)) ?_
   intro A286 c287 S288 _ w290 H291 O292; clear H283 O285
   have O293 : Own w w290 [Chunk.prow w P k38 38 w.heap.size S288 (.slice A286 ((out ++ [(⟨(files.getD i.toNat z38).f0, (((files.getD i.toNat z38).f1).take (((files.getD i.toNat z38).f2) + 0).toNat), (files.getD i.toNat z38).f2 + 0⟩ : S38)]).length) c287) (out ++ [(⟨(files.getD i.toNat z38).f0, (((files.getD i.toNat z38).f1).take (((files.getD i.toNat z38).f2) + 0).toNat), (files.getD i.toNat z38).f2 + 0⟩ : S38)]), Bk g88 [.string ((files.getD i.toNat z38).f0), .slice A80 ((((files.getD i.toNat z38).f1).take (((files.getD i.toNat z38).f2) + 0).toNat).length) c81, J ((files.getD i.toNat z38).f2 + 0)] 38, Bk g8 [.slice none 0 0, J 0, J 0, .bool false] 34, Bk g2 [.slice Af files.length cf, J most, J 0, .bool false] 34] := O292
   clear O292
   refine Va H291 fun _ H295 => ?_
   clear H291
   refine wpList_nil ?_
   refine gw_blk ?_
   refine gw_nx (hK66 _ _ ?_)
   refine wp_region_lit ?_
   refine Vm H295 fun _ H297 => ?_
   refine V H297 (op_add rfl (H297.ev rfl) (ev_c _ _) (by omega)) fun _ H299 => ?_
   refine Va H299 fun _ H301 => ?_
   clear H295 H297 H299
   refine wpList_nil ?_
   refine gw_nx ⟨_, ?_, i + 1, (out ++ [(⟨(files.getD i.toNat z38).f0, (((files.getD i.toNat z38).f1).take (((files.getD i.toNat z38).f2) + 0).toNat), (files.getD i.toNat z38).f2 + 0⟩ : S38)]), A286, c287, _, (at_ + 1), (H301.pick (t := 7) rfl (H301.pick (t := 5) rfl (H301.pick (t := 6) rfl (H301.pick (t := 1) rfl (H301.pick (t := 2) rfl (H301.pick (t := 4) rfl H301.nil)))))), O293.sel [0, 2, 3] (by decide), ?_, ?_, ?_, ?_, rfl⟩
   ·
    rw [hm51]; omega
   ·
    omega
   ·
    omega
   ·
    rw [← hW, hdo, crash_go (x := ofS (files.getD i.toNat z38)) h1_ hkn1 hkd, show (i + 1).toNat = i.toNat + 1 by omega]; simp [ofS]
   rw [List.length_append, List.length_singleton]; omega
  have H302 := H118.subst_ (d := 33) (b := false) rfl hb119
  clear H118
  (try simp only [decide_eq_false_iff_not, Int.not_lt] at hb119)
  have h1_ : ((files.getD i.toNat z38).f1.length : Int) - (files.getD i.toNat z38).f2 = 0 := by omega
  refine gS hK113 ?_
  refine wp_region_lit ?_
  refine Vm H302 fun _ H304 => ?_
  refine V H304 (op_loadn gwagg38 gwsiz38 rfl (H304.ev rfl) (O97.get 0 rfl) rfl rfl) fun _ H306 => ?_
  clear H302 H304
  refine gw_news (O := .cells #[.string ((files.getD i.toNat z38).f0), .slice A80 ((files.getD i.toNat z38).f1.length) c81, J ((files.getD i.toNat z38).f2)] 38 (0, 0)) (n := 1) H306 O97 (want_none rfl) rfl (by decide) (op_bslice (by kernel_rfl) rfl (pt_cons (H306.ev rfl) pt_nil)) ?_
  intro g307 _ w309 H310 O311; clear H306 O97
  have O312 : Own w w309 [Bk g307 [.string ((files.getD i.toNat z38).f0), .slice A80 ((files.getD i.toNat z38).f1.length) c81, J ((files.getD i.toNat z38).f2)] 38, Bk g88 [.string ((files.getD i.toNat z38).f0), .slice A80 ((files.getD i.toNat z38).f1.length) c81, J ((files.getD i.toNat z38).f2)] 38, Chunk.prow w P k38 38 w.heap.size So (.slice Ao out.length co) out, Bk g8 [.slice none 0 0, J 0, J 0, .bool false] 34, Bk g2 [.slice Af files.length cf, J most, J 0, .bool false] 34] := O311
  clear O311
  refine gw_pappend1 k38 (cs := [.string ((files.getD i.toNat z38).f0), .slice A80 ((files.getD i.toNat z38).f1.length) c81, J ((files.getD i.toNat z38).f2)]) (p := (⟨(files.getD i.toNat z38).f0, (files.getD i.toNat z38).f1, (files.getD i.toNat z38).f2⟩ : S38)) hP H310 (by exact O312.sel [2, 0, 1, 3, 4] (by decide)) (want_none rfl) rfl (by decide) rfl Tryz.underlying32 gwinfo38 rfl (by decide) (by decide) (H310.ev rfl) (H310.ev rfl) (k38_mkF _ _ (⟨(files.getD i.toNat z38).f0, (files.getD i.toNat z38).f1, (files.getD i.toNat z38).f2⟩ : S38) hl82 hC83) O312.below.size (by first | omega | (simp; omega)) ?_
  intro A313 c314 S315 _ w317 H318 O319; clear H310 O312
  have O320 : Own w w317 [Chunk.prow w P k38 38 w.heap.size S315 (.slice A313 ((out ++ [(⟨(files.getD i.toNat z38).f0, (files.getD i.toNat z38).f1, (files.getD i.toNat z38).f2⟩ : S38)]).length) c314) (out ++ [(⟨(files.getD i.toNat z38).f0, (files.getD i.toNat z38).f1, (files.getD i.toNat z38).f2⟩ : S38)]), Bk g88 [.string ((files.getD i.toNat z38).f0), .slice A80 ((files.getD i.toNat z38).f1.length) c81, J ((files.getD i.toNat z38).f2)] 38, Bk g8 [.slice none 0 0, J 0, J 0, .bool false] 34, Bk g2 [.slice Af files.length cf, J most, J 0, .bool false] 34] := O319
  clear O319
  refine Va H318 fun _ H322 => ?_
  clear H318
  refine wpList_nil ?_
  refine gw_blk ?_
  refine gw_nx (hK66 _ _ ?_)
  refine wp_region_lit ?_
  refine Vm H322 fun _ H324 => ?_
  refine V H324 (op_add rfl (H324.ev rfl) (ev_c _ _) (by omega)) fun _ H326 => ?_
  refine Va H326 fun _ H328 => ?_
  clear H322 H324 H326
  refine wpList_nil ?_
  refine gw_nx ⟨_, ?_, i + 1, (out ++ [(⟨(files.getD i.toNat z38).f0, (files.getD i.toNat z38).f1, (files.getD i.toNat z38).f2⟩ : S38)]), A313, c314, _, at_, (H328.pick (t := 7) rfl (H328.pick (t := 5) rfl (H328.pick (t := 6) rfl (H328.pick (t := 1) rfl (H328.pick (t := 2) rfl (H328.pick (t := 4) rfl H328.nil)))))), O320.sel [0, 2, 3] (by decide), ?_, ?_, ?_, ?_, rfl⟩
  ·
   rw [hm51]; omega
  ·
   omega
  ·
   omega
  ·
   rw [← hW, hdo, crash_keep (f := ofS (files.getD i.toNat z38)) h1_, show (i + 1).toNat = i.toNat + 1 by omega]; simp [ofS]
  rw [List.length_append, List.length_singleton]; omega
 have H329 := H63.subst_ (d := 18) (b := false) rfl hb64
 clear H63
 (try simp only [decide_eq_false_iff_not, Int.not_lt] at hb64)
 refine wp_exit ?_
 refine gw_thx ?_
 refine gw_thx ?_
 refine gw_in ?_
 refine gw_nx (hK41 _ _ ?_)
 refine gR fun K330 hK330 => ?_
 refine Vm H329 fun _ H332 => ?_
 refine Vf H332 (gwfld34_0 _ _) fun _ H334 => ?_
 clear H329 H332
 refine gw_set 2 H334 O50 rfl (want_none rfl) rfl (op_store1 gwsiz32 rfl (H334.ev rfl) (H334.ev rfl) rfl (blk_at (O50.get 2 rfl) rfl) (blkf (O50.get 2 rfl))) ?_
 intro _ w337 H336 O338; clear H334 O50
 refine gE hK330 ?_
 refine gR fun K339 hK339 => ?_
 refine V H336 (op_loadn gwagg34 gwsiz34 rfl (H336.ev rfl) (O338.get 2 rfl) rfl rfl) fun _ H341 => ?_
 clear H336
 refine gw_setn 1 H341 O338 rfl (want_none rfl) rfl (op_storen gwsiz34 rfl (H341.ev rfl) (H341.ev rfl) (O338.get 1 rfl) rfl (by simp) (by simp [Value.oneCell'])) ?_
 intro _ w344 H343 O345; clear H341 O338
 refine gE hK339 ?_
 refine wp_ret ?_
 refine gw_rets1 H343 rfl (rv_celln H343 rfl gwagg34 gwsiz34 (O345.get 1 rfl) rfl) ?_
 rw [List.drop_eq_nil_of_le (by omega), List.map_nil, crash_nil, List.append_nil] at hW
 have hN_ := prow_N O345 hP (O345.get 0 rfl)
 exact ⟨out, _, _, hW, rfl, Kd.V_mono (Kd.N_V hN_) (fun k hk => hk.elim .inl fun h => .inr (O345.lt 0 rfl h).1), O345.below, fun ad e => by have h1 := (O345.get 0 rfl).1 ad.block (by rw [e]; rfl); exact ⟨.inr (O345.lt 0 rfl h1).1, (O345.lt 0 rfl h1).2⟩⟩
end GRef3_
export GRef3_ (between_calls crash_ref)
section
open Go.Maps
abbrev SFile := S38
abbrev kFile := k38
structure JP (d : PD) (used : Int) : Prop where
  wf : wfD d
  len : (d.fs.length : Int) * 8 ≤ used
  by_ : d.used ≤ used
theorem stepD_used {d : PD} {k : PD → PD} {m : Int} (h0 : 0 ≤ d.fuse) (h1 : d.used ≤ m) (hk : ∀ d1 : PD, d1.fs = d.fs → d1.used = d.used → (k d1).used ≤ m) : (stepD d k).1.used ≤ m := by
  by_cases hf : d.fuse = 1
  · rw [step_off hf]; exact h1
  · rw [step_on hf h0]; exact hk _ rfl rfl
theorem with_used {d : PD} {nm : ByteArray} {q : PF → PD × Int} {m : Int} (h1 : d.used ≤ m) (h : ∀ f, d.down = false → getF nm d.fs = some f → (q f).1.used ≤ m) : (withF nm d q).1.used ≤ m := by
  cases hd : d.down
  · cases hg : getF nm d.fs with
    | none => rw [with_none hd hg]; exact h1
    | some f => rw [with_some hd hg]; exact h f hd hg
  · rw [with_down hd]; exact h1
theorem drop_used (nm : ByteArray) (d : PD) : (dropD nm d).used ≤ d.used := by
  cases hg : getF nm d.fs with
  | none => rw [drop_none hg]; exact Int.le_refl _
  | some f => rw [drop_some hg]; show d.used - (f.b.length : Int) ≤ d.used; omega
theorem does_used {d : PD} {kd n : Int} {A Z : ByteArray} {y : List Int} (hw : wfD d) : (doesD kd A Z n y d).1.used ≤ d.used + y.length := by
  have h0 := hw.fuse.1
  have hl : d.used ≤ d.used + y.length := by omega
  unfold doesD
  repeat' split
  · unfold createD
    repeat' split
    · exact hl
    · exact hl
    · exact hl
    · exact stepD_used h0 hl fun d1 _ h2 => by show d1.used ≤ _; omega
  · refine with_used hl fun f hd hg => ?_
    split
    · exact hl
    · exact stepD_used h0 hl fun d1 _ h2 => by show d1.used + (y.length : Int) ≤ _; omega
  · exact with_used hl fun f hd hg => stepD_used h0 hl fun d1 _ h2 => by show d1.used ≤ _; omega
  · cases hd : d.down
    · cases hb : namedB Z
      · rw [rename_bad hd hb]; exact hl
      · cases hg : getF A d.fs with
        | none => rw [rename_none hd hb hg]; exact hl
        | some f =>
          rw [rename_go hd hb hg]
          refine stepD_used h0 hl fun d1 _ h2 => ?_
          unfold renK
          split
          · omega
          · have := drop_used Z d1
            show (dropD Z d1).used ≤ _
            omega
    · rw [rename_down hd]; exact hl
  · refine with_used hl fun f hd hg => ?_
    split
    · exact hl
    · exact stepD_used h0 hl fun d1 _ h2 => by show d1.used - ((f.b.length : Int) - n) ≤ _; omega
  · exact with_used hl fun f hd hg => stepD_used h0 hl fun d1 _ h2 => by have := drop_used A d1; omega
theorem readlen {d : PD} (hw : wfD d) (nm : ByteArray) : ((readD nm d).1.length : Int) ≤ d.used := by
  have h0 := hw.used
  cases hd : d.down
  · cases hg : getF nm d.fs with
    | none => rw [read_none hd hg]; show (0 : Int) ≤ _; omega
    | some f => rw [read_some hd hg]; exact wf_len hw (getF_mem hg).1
  · rw [read_down hd]; show (0 : Int) ≤ _; omega
end
section
open Go.Maps
section
variable {D : List Deferred} {P : Program} {ops : Array Oper} {Q : Exit → Act → World → Prop} {B : Nat → Bool} {a : Act} {w0 w : World} {M : List Chunk} {o o2 : Oper}
theorem gx_step2 {fuel : Nat} {listed : Array Bool} (i j : Nat) (hi : ops[i]? = some o) (hj : ops[j]? = some o2) (hr : Region.ready .any ops listed = [i, j])
    (h1 : wpList P ops (Patch (fun a' w' => (B i = false → Held w0 M w') ∧ wpX P .any ops (NoPanic Q) (Held w0 M) B fuel (listed.setIfInBounds i true) a' w') (NoPanic Q)) [o] a w)
    (h2 : wpList P ops (Patch (fun a' w' => (B j = false → Held w0 M w') ∧ wpX P .any ops (NoPanic Q) (Held w0 M) B fuel (listed.setIfInBounds j true) a' w') (NoPanic Q)) [o2] a w) : wpX P .any ops (NoPanic Q) (Held w0 M) B (fuel + 1) listed a w :=
  ⟨fun h0 => (by rw [hr] at h0; cases h0), fun k hk => by
    rw [hr] at hk
    rcases List.mem_cons.1 hk with rfl | hk
    · exact wpOp_of_list hi h1
    · obtain rfl : k = j := by simpa using hk
      exact wpOp_of_list hj h2⟩
end
abbrev SItem := S54
abbrev kItem := k54
abbrev zItem := z54
def toI (x : SItem) : PI := (x.f0, x.f1)
theorem putN_is : ∀ (k f u : Nat), 1 ≤ k → k ≤ f → u < 128 ^ k → (k = 1 ∨ 128 ^ (k - 1) ≤ u) → (putN f u).length = k
  | 0, _, _, h, _, _, _ => by omega
  | k + 1, 0, _, _, h, _, _ => by omega
  | k + 1, f + 1, u, _, hf, hu, hl => by
    unfold putN
    by_cases hk : k = 0
    · subst hk
      rw [if_neg (by simp at hu; omega)]
      rfl
    · have h1 : 128 ^ k ≤ u := by
        rcases hl with h | h
        · omega
        · simpa using h
      have h2 : 128 ≤ 128 ^ k := by
        obtain ⟨j, rfl⟩ : ∃ j, k = j + 1 := ⟨k - 1, by omega⟩
        rw [Nat.pow_succ]
        have : 0 < 128 ^ j := Nat.pow_pos (by decide)
        omega
      rw [if_pos (by omega), List.length_cons, putN_is k f (u / 128) (by omega) (by omega) (by rw [Nat.pow_succ] at hu; omega) ?_]
      by_cases hk1 : k = 1
      · exact .inl hk1
      · right
        obtain ⟨j, rfl⟩ : ∃ j, k = j + 1 := ⟨k - 1, by omega⟩
        rw [Nat.pow_succ] at h1
        show 128 ^ j ≤ u / 128
        omega
theorem gnumFrom_len {xs : List Int} (hb : ByteL xs) {n : Int} {k : Nat} : ∀ (f j : Nat), gnumFrom xs f j = some (n, k) → 1 ≤ k ∧ k ≤ 9 ∧ 0 ≤ n ∧ n < 128 ^ k ∧ (k = 1 ∨ (128 : Int) ^ (k - 1) ≤ n)
  | 0, j, h => by simp [gnumFrom] at h
  | f + 1, j, h => by
    unfold gnumFrom at h
    split at h
    · rename_i hj
      split at h
      · rename_i hlt
        split at h
        · rename_i h2
          simp only [Option.some.injEq, Prod.mk.injEq] at h
          obtain ⟨rfl, rfl⟩ := h
          have hv := valN_bound xs (j + 1)
          refine ⟨by omega, by omega, hv.1, hv.2, ?_⟩
          by_cases h0 : j = 0
          · exact .inl (by omega)
          · right
            have hy := byte_getD hb j hj.1
            have hp : (0 : Int) < 128 ^ j := Int.pow_pos (by decide)
            have h3 : valN xs (j + 1) = valN xs j + xs.getD j 0 % 128 * 128 ^ j := rfl
            have h4 := (valN_bound xs j).1
            have h5 : xs.getD j 0 % 128 = xs.getD j 0 := by omega
            have h6 : 1 * (128 : Int) ^ j ≤ xs.getD j 0 * 128 ^ j := Int.mul_le_mul_of_nonneg_right (by omega) (Int.le_of_lt hp)
            rw [h3, h5, Nat.add_sub_cancel]
            omega
        · cases h
      · exact gnumFrom_len hb f (j + 1) h
    · cases h
theorem gnum_len {xs : List Int} (hb : ByteL xs) {n : Int} {k : Nat} (h : gnum xs = some (n, k)) : (encN n).length = k := by
  obtain ⟨h1, h2, h3, h4, h5⟩ := gnumFrom_len hb _ _ h
  have h6 := gnum_some h
  have e : (numOf n : Int) = n := by
    unfold numOf mn mx
    split <;> split <;> omega
  have c : ∀ m : Nat, ((128 ^ m : Nat) : Int) = (128 : Int) ^ m := fun m => by rw [Int.natCast_pow]; rfl
  refine putN_is k 9 (numOf n) h1 h2 ?_ ?_
  · have := c k
    omega
  · rcases h5 with h5 | h5
    · exact .inl h5
    · right
      have := c (k - 1)
      omega
theorem scan_size : ∀ (f : Nat) (b : List Int) (is : List PI) (sz : Int), ByteL b → sz = ((recsJ is).length : Int) → (scanS f b is sz).2 = ((recsJ (scanS f b is sz).1).length : Int)
  | 0, b, is, sz, _, h => h
  | f + 1, b, is, sz, hb, h => by
    cases hs : (Pure.splitOf b).2.2
    · rw [scan_stop1 hs]; exact h
    · cases he : entryP (Pure.splitOf b).1 with
      | none => rw [scan_stop2 hs he]; exact h
      | some p =>
        obtain ⟨n, k⟩ := p
        cases hh : hasJ n is
        · rw [scan_go (by omega) hs he hh]
          refine scan_size f _ _ _ (hb.drop _) ?_
          obtain ⟨h1, h2, h3, h4, h5⟩ := entry_in he
          have hl := gnum_len (split_byte hb) h4
          have h6 := recI_len (n, (Pure.splitOf b).1.drop k)
          have h7 := split_in hs
          rw [recs_snoc, List.length_append, h6, h7.1, h]
          show _ = ((((recsJ is).length + ((encN n).length + ((Pure.splitOf b).1.drop k).length + 8) : Nat)) : Int)
          rw [hl, List.length_drop]
          omega
        · rw [scan_stop3 hs he hh]; exact h
theorem scanJ_size {b : List Int} (hb : ByteL b) : (scanJ b).2 = ((recsJ (scanJ b).1).length : Int) := scan_size _ _ _ _ hb rfl
theorem scan_le : ∀ (f : Nat) (b : List Int) (is : List PI) (sz : Int), (scanS f b is sz).2 ≤ sz + b.length ∧ (scanS f b is sz).1.length ≤ is.length + b.length
  | 0, b, is, sz => ⟨by show sz ≤ _; omega, by show is.length ≤ _; omega⟩
  | f + 1, b, is, sz => by
    cases hs : (Pure.splitOf b).2.2
    · rw [scan_stop1 hs]; exact ⟨by show sz ≤ _; omega, by show is.length ≤ _; omega⟩
    · cases he : entryP (Pure.splitOf b).1 with
      | none => rw [scan_stop2 hs he]; exact ⟨by show sz ≤ _; omega, by show is.length ≤ _; omega⟩
      | some p =>
        obtain ⟨n, k⟩ := p
        cases hh : hasJ n is
        · rw [scan_go (by omega) hs he hh]
          have ih := scan_le f (b.drop (Pure.splitOf b).2.1.toNat) (is ++ [(n, (Pure.splitOf b).1.drop k)]) (sz + (Pure.splitOf b).2.1)
          have h7 := split_in hs
          rw [List.length_append, List.length_singleton, List.length_drop] at ih
          refine ⟨Int.le_trans ih.1 (by omega), Nat.le_trans ih.2 (by omega)⟩
        · rw [scan_stop3 hs he hh]; exact ⟨by show sz ≤ _; omega, by show is.length ≤ _; omega⟩
theorem scan_small {b : List Int} (hb : ByteL b) (h : b.length ≤ 900000) : (scanJ b).2 ≤ (b.length : Int) ∧ (scanJ b).1.length ≤ 1000000 := by
  have h1 := scan_le (b.length + 1) b [] 0
  unfold scanJ
  simp only [List.length_nil] at h1
  omega
theorem scan_ok : ∀ (f : Nat) (b : List Int) (is : List PI) (sz : Int), ByteL b → b.length ≤ 900000 → (∀ x ∈ is, okI x) → onceJ is → (∀ x ∈ (scanS f b is sz).1, okI x) ∧ onceJ (scanS f b is sz).1
  | 0, b, is, sz, _, _, h, h2 => ⟨h, h2⟩
  | f + 1, b, is, sz, hb, hl, h, h2 => by
    cases hs : (Pure.splitOf b).2.2
    · rw [scan_stop1 hs]; exact ⟨h, h2⟩
    · cases he : entryP (Pure.splitOf b).1 with
      | none => rw [scan_stop2 hs he]; exact ⟨h, h2⟩
      | some p =>
        obtain ⟨n, k⟩ := p
        cases hh : hasJ n is
        · rw [scan_go (by omega) hs he hh]
          obtain ⟨h3, h4, h5, h6, h7⟩ := entry_in he
          have h8 := split_len b
          refine scan_ok f _ _ _ (hb.drop _) (by rw [List.length_drop]; omega) (fun x hx => ?_) ?_
          · rcases List.mem_append.1 hx with hx | hx
            · exact h x hx
            · obtain rfl := List.mem_singleton.1 hx
              exact ⟨⟨h3, h4⟩, by show ((Pure.splitOf b).1.drop k).length ≤ _; rw [List.length_drop]; omega, (split_byte hb).drop k⟩
          · refine List.pairwise_append.2 ⟨h2, List.pairwise_singleton _ _, fun x hx y hy => ?_⟩
            obtain rfl := List.mem_singleton.1 hy
            exact hasJ_false.1 hh x hx
        · rw [scan_stop3 hs he hh]; exact ⟨h, h2⟩
section
variable {its : List SItem} {key : Int} {i : Nat}
theorem it_at (h : i < its.length) : its.getD i zItem = its[i] := by simp [List.getD_eq_getElem?_getD, List.getElem?_eq_getElem h]
theorem it_mem (h : i < its.length) : toI (its.getD i zItem) ∈ its.map toI := by rw [it_at h]; exact List.mem_map_of_mem (List.getElem_mem h)
theorem has_no (h : ∀ j, j < its.length → (its.getD j zItem).f0 ≠ key) : hasJ key (its.map toI) = false := hasJ_false.2 fun x hx => by
  obtain ⟨y, hy, rfl⟩ := List.mem_map.1 hx
  obtain ⟨j, hj, rfl⟩ := List.getElem_of_mem hy
  have := h j hj
  rw [it_at hj] at this
  exact this
theorem has_yes (h : i < its.length) (e : (its.getD i zItem).f0 = key) : hasJ key (its.map toI) = true := hasJ_iff.2 ⟨_, it_mem h, e⟩
theorem get_yes (h : i < its.length) (e : (its.getD i zItem).f0 = key) (hn : ∀ j, j < i → (its.getD j zItem).f0 ≠ key) : getJ key (its.map toI) = some (its.getD i zItem).f1 := by
  unfold getJ
  have h1 : its.map toI = (its.take i).map toI ++ toI (its.getD i zItem) :: (its.drop (i + 1)).map toI := by
    rw [it_at h, ← List.map_cons, ← List.map_append, List.getElem_cons_drop, List.take_append_drop]
  rw [h1, List.find?_append, List.find?_eq_none.2 ?_, Option.none_or, List.find?_cons_of_pos (by simpa [toI] using e)]
  · rfl
  · intro x hx
    obtain ⟨y, hy, rfl⟩ := List.mem_map.1 hx
    obtain ⟨j, hj, rfl⟩ := List.getElem_of_mem hy
    rw [List.length_take] at hj
    have := hn j (by omega)
    rw [it_at (by omega)] at this
    simpa [toI, List.getElem_take] using this
theorem size_at (h : i < its.length) : (recsJ ((its.take (i + 1)).map toI)).length = (recsJ ((its.take i).map toI)).length + (recI (toI (its.getD i zItem))).length := by
  rw [it_at h, List.take_succ_eq_append_getElem h, List.map_append, List.map_cons, List.map_nil, recs_snoc, List.length_append]
theorem size_all : (recsJ ((its.take its.length).map toI)).length = (recsJ (its.map toI)).length := by rw [List.take_length]
theorem size_le (i : Nat) : (recsJ ((its.take i).map toI)).length ≤ (recsJ (its.map toI)).length := by rw [List.map_take]; exact recs_take_le _ _
def keysOf (its : List SItem) : List Int := its.map fun x => x.f0
def KeysR (its : List SItem) (ks rest : List Int) : Prop := (ks ++ rest).Perm (keysOf its) ∧ ks.Pairwise (fun x y => x < y) ∧ ∀ x ∈ ks, ∀ y ∈ rest, x < y
def cand (ks : List Int) (x : Int) : Bool := decide ((ks.length : Int) = 0) || decide (rd ks ((ks.length : Int) - 1) < x)
theorem cand_iff {ks : List Int} {x : Int} (h : ks.Pairwise (fun x y => x < y)) : cand ks x = true ↔ ∀ y ∈ ks, y < x := by
  unfold cand
  rw [Bool.or_eq_true, decide_eq_true_eq, decide_eq_true_eq]
  constructor
  · rintro (h1 | h1) y hy
    · have : ks = [] := List.eq_nil_of_length_eq_zero (by omega)
      rw [this] at hy
      simp at hy
    · obtain ⟨j, hj, rfl⟩ := List.getElem_of_mem hy
      have e : rd ks ((ks.length : Int) - 1) = ks[ks.length - 1] := by
        unfold rd
        rw [show ((ks.length : Int) - 1).toNat = ks.length - 1 by omega]
        simp [List.getD_eq_getElem?_getD, List.getElem?_eq_getElem (show ks.length - 1 < ks.length by omega)]
      rw [e] at h1
      by_cases hl : j = ks.length - 1
      · subst hl; exact h1
      · have := List.pairwise_iff_getElem.1 h j (ks.length - 1) hj (by omega) (by omega)
        omega
  · intro h1
    by_cases h0 : ks.length = 0
    · exact .inl (by omega)
    · right
      have e : rd ks ((ks.length : Int) - 1) = ks[ks.length - 1] := by
        unfold rd
        rw [show ((ks.length : Int) - 1).toNat = ks.length - 1 by omega]
        simp [List.getD_eq_getElem?_getD, List.getElem?_eq_getElem (show ks.length - 1 < ks.length by omega)]
      rw [e]
      exact h1 _ (List.getElem_mem _)
theorem cand_rest {ks rest : List Int} {x : Int} (h : KeysR its ks rest) (hx : x ∈ keysOf its) : cand ks x = true ↔ x ∈ rest := by
  rw [cand_iff h.2.1]
  constructor
  · intro h1
    rcases List.mem_append.1 (h.1.mem_iff.2 hx) with h2 | h2
    · have := h1 x h2
      omega
    · exact h2
  · intro h1 y hy
    exact h.2.2 y hy x h1
def bestK (its : List SItem) (ks : List Int) (i : Nat) (best : Int) : Prop := (best = -1 ∧ ∀ j, j < i → cand ks (its.getD j zItem).f0 = false) ∨ (0 ≤ best ∧ best ∈ keysOf its ∧ cand ks best = true ∧ ∀ j, j < i → cand ks (its.getD j zItem).f0 = true → best ≤ (its.getD j zItem).f0)
theorem key_mem (h : i < its.length) : (its.getD i zItem).f0 ∈ keysOf its := by rw [it_at h]; exact List.mem_map_of_mem (List.getElem_mem h)
theorem bestK0 {ks : List Int} : bestK its ks 0 (-1) := .inl ⟨rfl, fun j hj => by omega⟩
theorem bestK_yes {ks : List Int} {best : Int} (h : bestK its ks i best) (hi : i < its.length) (h0 : 0 ≤ (its.getD i zItem).f0) (hc : cand ks (its.getD i zItem).f0 = true) (hl : best < 0 ∨ (its.getD i zItem).f0 < best) : bestK its ks (i + 1) (its.getD i zItem).f0 := by
  refine .inr ⟨h0, key_mem hi, hc, fun j hj hcj => ?_⟩
  by_cases e : j = i
  · subst e; exact Int.le_refl _
  · rcases h with ⟨h1, h2⟩ | ⟨h1, _, _, h2⟩
    · have := h2 j (by omega)
      rw [this] at hcj
      cases hcj
    · have := h2 j (by omega) hcj
      rcases hl with hl | hl <;> omega
theorem bestK_no {ks : List Int} {best : Int} (h : bestK its ks i best) (hn : cand ks (its.getD i zItem).f0 = false ∨ (0 ≤ best ∧ best ≤ (its.getD i zItem).f0)) : bestK its ks (i + 1) best := by
  rcases h with ⟨h1, h2⟩ | ⟨h1, h2, h3, h4⟩
  · refine .inl ⟨h1, fun j hj => ?_⟩
    by_cases e : j = i
    · subst e
      rcases hn with hn | hn
      · exact hn
      · omega
    · exact h2 j (by omega)
  · refine .inr ⟨h1, h2, h3, fun j hj hc => ?_⟩
    by_cases e : j = i
    · subst e
      rcases hn with hn | hn
      · rw [hn] at hc; cases hc
      · exact hn.2
    · exact h4 j (by omega) hc
theorem keysR0 : KeysR its [] (keysOf its) := ⟨List.Perm.refl _, List.Pairwise.nil, fun x hx => by simp at hx⟩
theorem keysR_step {ks rest : List Int} {best : Int} (h : KeysR its ks rest) (hn : (keysOf its).Nodup) (hl : ks.length < its.length) (hb : bestK its ks its.length best) : ∃ rest', KeysR its (ks ++ [best]) rest' := by
  have hlen := h.1.length_eq
  rw [List.length_append] at hlen
  have hk : (keysOf its).length = its.length := by unfold keysOf; rw [List.length_map]
  obtain ⟨x, hx⟩ : ∃ x, x ∈ rest := by
    cases hr : rest with
    | nil => rw [hr] at hlen; simp at hlen; omega
    | cons y r => exact ⟨y, by simp⟩
  have hin : ∀ y ∈ rest, ∃ j, j < its.length ∧ (its.getD j zItem).f0 = y ∧ cand ks y = true := fun y hy => by
    have h1 : y ∈ keysOf its := h.1.mem_iff.1 (List.mem_append_right _ hy)
    obtain ⟨z, hz, rfl⟩ := List.mem_map.1 h1
    obtain ⟨j, hj, rfl⟩ := List.getElem_of_mem hz
    exact ⟨j, hj, by rw [it_at hj], (cand_rest h h1).2 hy⟩
  have hnd : (ks ++ rest).Nodup := h.1.nodup_iff.2 hn
  rcases hb with ⟨_, h2⟩ | ⟨h1, h2, h3, h4⟩
  · obtain ⟨j, hj, e, hc⟩ := hin x hx
    have := h2 j hj
    rw [e, hc] at this
    cases this
  · have hbr := (cand_rest h h2).1 h3
    have hp := List.perm_cons_erase hbr
    refine ⟨rest.erase best, ?_, ?_, fun a ha y hy => ?_⟩
    · rw [List.append_assoc]
      exact (List.Perm.append_left ks hp).symm.trans h.1
    · refine List.pairwise_append.2 ⟨h.2.1, List.pairwise_singleton _ _, fun a ha y hy => ?_⟩
      obtain rfl := List.mem_singleton.1 hy
      exact h.2.2 a ha _ hbr
    · have hy2 := List.mem_of_mem_erase hy
      rcases List.mem_append.1 ha with ha | ha
      · exact h.2.2 a ha y hy2
      · obtain rfl := List.mem_singleton.1 ha
        obtain ⟨j, hj, e, hc⟩ := hin y hy2
        have h5 := h4 j hj (by rw [e]; exact hc)
        rw [e] at h5
        have h6 : (a :: rest.erase a).Nodup := hp.nodup_iff.1 ((List.nodup_append.1 hnd).2.1)
        have h7 : y ≠ a := fun e2 => by
          rw [e2] at hy
          exact (List.nodup_cons.1 h6).1 hy
        omega
theorem keysR_done {ks rest : List Int} (h : KeysR its ks rest) (hl : ¬ ks.length < its.length) : ks.Perm (keysOf its) := by
  have hlen := h.1.length_eq
  rw [List.length_append] at hlen
  have hk : (keysOf its).length = its.length := by unfold keysOf; rw [List.length_map]
  have : rest = [] := List.eq_nil_of_length_eq_zero (by omega)
  have h1 := h.1
  rw [this, List.append_nil] at h1
  exact h1
theorem keys_nodup (h : onceJ (its.map toI)) : (keysOf its).Nodup := by
  have := List.pairwise_map.1 h
  exact List.pairwise_map.2 this
theorem keysOf_is : (its.map toI).map (·.1) = keysOf its := by unfold keysOf; rw [List.map_map]; rfl
theorem keys_same {ks qs : List Int} {is : List PI} (h1 : ks.Pairwise (fun x y => x < y)) (h2 : ks.Perm (is.map (·.1))) (h3 : qs.Pairwise (fun x y => x < y)) (h4 : qs.Perm (is.map (·.1))) : ks = qs :=
  List.Perm.eq_of_pairwise (le := fun x y => x < y) (fun a b _ _ h1 h2 => by omega) h1 h3 (h2.trans h4.symm)
end
theorem num4_is {b : List Int} (hb : ByteL b) (h : 4 ≤ b.length) : (Pure.num4 b : Int) = b.getD (0 : Int).toNat (0 : Int) + 256 * b.getD (1 : Int).toNat (0 : Int) + 65536 * b.getD (2 : Int).toNat (0 : Int) + 16777216 * b.getD (3 : Int).toNat (0 : Int) := by
  have h0 := byte_getD hb 0 (by omega)
  have h1 := byte_getD hb 1 (by omega)
  have h2 := byte_getD hb 2 (by omega)
  have h3 := byte_getD hb 3 (by omega)
  show (((b.getD 0 0).toNat + 256 * (b.getD 1 0).toNat + 65536 * (b.getD 2 0).toNat + 16777216 * (b.getD 3 0).toNat : Nat) : Int) = b.getD 0 0 + 256 * b.getD 1 0 + 65536 * b.getD 2 0 + 16777216 * b.getD 3 0
  omega
theorem split_no {b : List Int} (h : b.length < 8 ∨ 1073741824 < Pure.num4 b ∨ b.length < Pure.num4 b + 8) : Pure.splitOf b = ([], 0, false) := if_pos h
theorem split_bad {b : List Int} (h1 : ¬ b.length < 8) (h2 : ¬ 1073741824 < Pure.num4 b) (h3 : ¬ b.length < Pure.num4 b + 8) (h4 : Pure.crc ((b.drop 8).take (Pure.num4 b)) ≠ Pure.num4 (b.drop 4)) : Pure.splitOf b = ([], 0, false) := by
  rw [Pure.splitOf_room b h1 h2 h3]; exact if_neg h4
theorem split_yes {b : List Int} (h1 : ¬ b.length < 8) (h2 : ¬ 1073741824 < Pure.num4 b) (h3 : ¬ b.length < Pure.num4 b + 8) (h4 : Pure.crc ((b.drop 8).take (Pure.num4 b)) = Pure.num4 (b.drop 4)) : Pure.splitOf b = ((b.drop 8).take (Pure.num4 b), ((Pure.num4 b + 8 : Nat) : Int), true) := by
  rw [Pure.splitOf_room b h1 h2 h3]; exact if_pos h4
theorem ent_none (p : List Int) (h : (decide ((gnumV p).2 = 0) || decide (1099511627776 < (gnumV p).1) || decide (536870912 < (p.length : Int) - (gnumV p).2)) = true) : entryP p = none := by
  simp only [Bool.or_eq_true, decide_eq_true_eq] at h
  rcases gnumV_is p with ⟨hn, _⟩ | ⟨k, hs, h2, h3⟩
  · exact entry_none1 hn
  · exact entry_none2 hs (by omega)
theorem ent_some (p : List Int) (h : ¬ ((gnumV p).2 = 0 ∨ 1099511627776 < (gnumV p).1 ∨ 536870912 < (p.length : Int) - (gnumV p).2)) : entryP p = some ((gnumV p).1, (gnumV p).2.toNat) := by
  rcases gnumV_is p with ⟨hn, h0, _⟩ | ⟨k, hs, h2, h3⟩
  · exact absurd (.inl h0) h
  · rw [h2, Int.toNat_natCast]
    exact entry_some hs (by omega) (by omega)
theorem take_snocI (xs : List SItem) (i : Int) (h0 : 0 ≤ i) (h1 : i < xs.length) : xs.take i.toNat ++ [(⟨(xs.getD i.toNat zItem).f0, (xs.getD i.toNat zItem).f1⟩ : SItem)] = xs.take (i + 1).toNat := by
  rw [show (i + 1).toNat = i.toNat + 1 by omega, it_at (by omega), List.take_succ_eq_append_getElem (by omega)]
theorem F_mapC {α β : Type} {d : Kd α} {d2 : Kd β} {W : World} {P : Nat → Prop} {A A2 : Option Addr} {n n2 : Nat} {xs : List α} {ys : List β} (h : Kd.F d W P A n xs) (hc : ∀ W', Kd.C d W' A n xs → Kd.C d2 W' A2 n2 ys) : Kd.F d2 W P A2 n2 ys := fun W' hW => hc W' (h W' hW)
section
variable {α : Type} {d : Kd α} {w0 w w' : World} {P S Q : Nat → Prop} {A : Option Addr} {n c : Nat} {xs : List α} {L : List Chunk} {i : Nat}
def Chunk.pview (w0 : World) (P : Nat → Prop) (d : Kd α) (S : Nat → Prop) (A : Option Addr) (n c : Nat) (xs : List α) : Chunk :=
  ⟨S, fun w => (∀ W', (∀ k, P k → W'.heap[k]? = w0.heap[k]?) → (∀ k, S k → W'.heap[k]? = w.heap[k]?) → Kd.C d W' A n xs) ∧ n ≤ c ∧ ∀ ad, A = some ad → P ad.block ∨ S ad.block, fun h hm => ⟨fun W' h1 h2 => h.1 W' h1 fun k hk => (h2 k hk).trans (hm k hk), h.2⟩⟩
theorem pview_F (HO : Own w0 w L) (hP : ∀ k, P k → k < w0.heap.size) (hi : L[i]? = some (Chunk.pview w0 P d S A n c xs)) : Kd.F d w (fun k => P k ∨ S k) A n xs := fun W' hW =>
  (HO.get i hi).1 W' (fun k hk => (hW k (.inl hk) (Nat.lt_of_lt_of_le (hP k hk) HO.below.size)).trans (HO.below.block k (hP k hk))) fun k hk => hW k (.inr hk) (HO.lt i hi hk).2
theorem pview_C (HO : Own w0 w L) (hP : ∀ k, P k → k < w0.heap.size) (hi : L[i]? = some (Chunk.pview w0 P d S A n c xs)) : Kd.C d w A n xs := Kd.F_now (pview_F HO hP hi)
theorem pview_le (h : (Chunk.pview w0 P d S A n c xs).P w) : n ≤ c := h.2.1
theorem Own.pview_arg (HO : Own w0 w L) (hF : Kd.F d w0 P A n xs) (hc : n ≤ c) (hA : ∀ ad, A = some ad → P ad.block) : Own w0 w (Chunk.pview w0 P d (fun _ => False) A n c xs :: L) :=
  HO.fresh (cs := [_]) (Out.one (Out.refl w _) (c := Chunk.pview w0 P d (fun _ => False) A n c xs) ⟨fun W' h1 _ => hF W' fun k hk _ => h1 k hk, hc, fun ad e => .inl (hA ad e)⟩ fun k hk => hk.elim)
theorem pview_out (HO : Own w0 w L) (hP : ∀ k, P k → k < w0.heap.size) (hb : Below w.heap.size w w') (hS : ∀ k, S k → k < w.heap.size) (hF : Kd.F d w' (fun k => (P k ∨ S k) ∨ w.heap.size ≤ k) A n xs) (hc : n ≤ c) (hA : ∀ ad, A = some ad → ((P ad.block ∨ S ad.block) ∨ w.heap.size ≤ ad.block) ∧ ad.block < w'.heap.size) :
    Out w w' S [Chunk.pview w0 P d (fun k => (S k ∨ w.heap.size ≤ k) ∧ k < w'.heap.size) A n c xs] := by
  have hPw : ∀ k, P k → k < w.heap.size := fun k hk => Nat.lt_of_lt_of_le (hP k hk) HO.below.size
  refine Out.one (Out.of_below hb _) (c := Chunk.pview w0 P d (fun k => (S k ∨ w.heap.size ≤ k) ∧ k < w'.heap.size) A n c xs) ⟨fun W' h1 h2 => hF W' fun k hk hlt => ?_, hc, fun ad e => ?_⟩ fun k hk => hk
  · rcases hk with (hk | hk) | hk
    · exact (h1 k hk).trans ((hb.block k (hPw k hk)).trans (HO.below.block k (hP k hk))).symm
    · exact h2 k ⟨.inl hk, hlt⟩
    · exact h2 k ⟨.inr hk, hlt⟩
  · obtain ⟨h1, h2⟩ := hA ad e
    rcases h1 with (h | h) | h
    · exact .inl h
    · exact .inr ⟨.inl h, h2⟩
    · exact .inr ⟨.inr h, h2⟩
end
theorem scan_own {w0 w : World} {P : Nat → Prop} {L : List Chunk} {Ab : Option Addr} {cb : Nat} {b : List Int} (f : Nat) (hP : ∀ k, P k → k < w0.heap.size) (HO : Own w0 w L) (hs : ∀ w : World, (∀ k, P k → k < w.heap.size) → Kd.F (Kd.int .u8) w P Ab b.length b → Calls Tryz.prog f #[.slice Ab b.length cb] w fun e w' => ∃ (its : List SItem) (Ai : Option Addr) (ci : Nat), its.map toI = (scanJ b).1 ∧ e = .returned (.slice Ai its.length ci) ∧ (Kd.F kItem w' (fun k => P k ∨ w.heap.size ≤ k) Ai its.length its ∧ its.length ≤ ci ∧ ∀ ad, Ai = some ad → (P ad.block ∨ w.heap.size ≤ ad.block) ∧ ad.block < w'.heap.size) ∧ Below w.heap.size w w') (hF : Kd.F (Kd.int .u8) w0 P Ab b.length b) :
    Calls Tryz.prog f #[.slice Ab b.length cb] w fun e w' => ∃ (its : List SItem) (Ai : Option Addr) (ci : Nat) (S' : Nat → Prop), its.map toI = (scanJ b).1 ∧ e = .returned (.slice Ai its.length ci) ∧ Out w w' (fun _ => False) [Chunk.pview w0 P kItem S' Ai its.length ci its] := by
  have hPw : ∀ k, P k → k < w.heap.size := fun k hk => Nat.lt_of_lt_of_le (hP k hk) HO.below.size
  refine (hs w hPw (Kd.F_step hF fun k hk _ => HO.below.block k (hP k hk))).mono ?_
  rintro e w' ⟨its, Ai, ci, h1, h2, ⟨h3, h4, h5⟩, h6⟩
  refine ⟨its, Ai, ci, _, h1, h2, pview_out (S := fun _ => False) HO hP h6 (fun k hk => hk.elim) (Kd.F_mono h3 fun k hk => hk.elim (fun h => .inl (.inl h)) .inr) h4 fun ad e => ?_⟩
  obtain ⟨h7, h8⟩ := h5 ad e
  exact ⟨h7.elim (fun h => .inl (.inl h)) .inr, h8⟩
theorem do_p {w0 w : World} {P Sm : Nat → Prop} {L : List Chunk} (Am : Option Addr) (cm : Nat) (files : List SFile) (d : PD) (kd : Int) (nm dest : ByteArray) (n : Int) (Ay : Option Addr) (cy : Nat) (y : List Int) (i : Nat) (hP : ∀ k, P k → k < w0.heap.size) (HO : Own w0 w L) (hi : L[i]? = some (Chunk.pview w0 P kFile Sm Am files.length cm files)) (hkd : kdOK kd) (hlf : files.length ≤ 1000000) (hd : files.map ofS = d.fs) (hw : wfD d)
    (hy : Kd.C (Kd.int .u8) w Ay y.length y) (hcy : y.length ≤ cy) (hroom : d.used + y.length ≤ 140737488355327) :
    Calls Tryz.prog 38 #[.agg #[.slice Am files.length cm, .int .i64 d.most, .int .i64 d.fuse, .bool d.down], .agg #[.int .i64 kd, .string nm, .string dest, .int .i64 n, .slice Ay y.length cy]] w fun e w' => ∃ files' A' c' S', files'.map ofS = (doesD kd nm dest n y d).1.fs ∧
      e = .returned (.tuple #[.agg #[.slice A' files'.length c', .int .i64 (doesD kd nm dest n y d).1.most, .int .i64 (doesD kd nm dest n y d).1.fuse, .bool (doesD kd nm dest n y d).1.down], .int .i64 (doesD kd nm dest n y d).2]) ∧ Out w w' Sm [Chunk.pview w0 P kFile S' A' files'.length c' files'] := by
  have hS : ∀ k, Sm k → k < w.heap.size := fun k hk => (HO.lt i hi hk).2
  have hPS : ∀ k, (P k ∨ Sm k) → k < w.heap.size := fun k hk => hk.elim (fun h => Nat.lt_of_lt_of_le (hP k h) HO.below.size) (hS k)
  have hv := HO.get i hi
  refine (do_calls (fun k => P k ∨ Sm k) Am cm files d kd hkd nm dest n Ay cy y w hPS (pview_F HO hP hi) hv.2.1 hv.2.2 hlf hd hw hy hcy hroom).mono ?_
  rintro e w' ⟨files', A', c', h1, h2, h3, h4, h5⟩
  obtain ⟨_, hle, hF⟩ := Kd.V_at h3
  exact ⟨files', A', c', _, h1, h2, pview_out HO hP h4 hS hF hle h5⟩
theorem do_pn {w0 w : World} {P Sm : Nat → Prop} {L : List Chunk} (Am : Option Addr) (cm : Nat) (files : List SFile) (d : PD) (kd : Int) (nm dest : ByteArray) (n : Int) (i : Nat) (hP : ∀ k, P k → k < w0.heap.size) (HO : Own w0 w L) (hi : L[i]? = some (Chunk.pview w0 P kFile Sm Am files.length cm files)) (hkd : kdOK kd) (hlf : files.length ≤ 1000000) (hd : files.map ofS = d.fs) (hw : wfD d)
    (hroom : d.used ≤ 140737488355327) :
    Calls Tryz.prog 38 #[.agg #[.slice Am files.length cm, .int .i64 d.most, .int .i64 d.fuse, .bool d.down], .agg #[.int .i64 kd, .string nm, .string dest, .int .i64 n, .slice none 0 0]] w fun e w' => ∃ files' A' c' S', files'.map ofS = (doesD kd nm dest n [] d).1.fs ∧
      e = .returned (.tuple #[.agg #[.slice A' files'.length c', .int .i64 (doesD kd nm dest n [] d).1.most, .int .i64 (doesD kd nm dest n [] d).1.fuse, .bool (doesD kd nm dest n [] d).1.down], .int .i64 (doesD kd nm dest n [] d).2]) ∧ Out w w' Sm [Chunk.pview w0 P kFile S' A' files'.length c' files'] :=
  do_p Am cm files d kd nm dest n none 0 [] i hP HO hi hkd hlf hd hw (Kd.C_nil _ _) (Nat.le_refl _) (by show d.used + ((0 : Nat) : Int) ≤ _; omega)
def JPost (P : Nat → Prop) (w w' : World) (e : Ending) (nm : ByteArray) (r : PD × Int) (ok : List PI → Prop) : Prop := ∃ (files' : List SFile) (A' : Option Addr) (c' : Nat) (its : List SItem) (Ai : Option Addr) (ci : Nat), files'.map ofS = r.1.fs ∧ ok (its.map toI) ∧
  e = .returned (.tuple #[.agg #[.slice A' files'.length c', .int .i64 r.1.most, .int .i64 r.1.fuse, .bool r.1.down, .string nm, .slice Ai its.length ci], .int .i64 r.2]) ∧
  (Kd.F kFile w' (fun k => P k ∨ w.heap.size ≤ k) A' files'.length files' ∧ files'.length ≤ c' ∧ ∀ ad, A' = some ad → (P ad.block ∨ w.heap.size ≤ ad.block) ∧ ad.block < w'.heap.size) ∧
  (Kd.F kItem w' (fun k => P k ∨ w.heap.size ≤ k) Ai its.length its ∧ its.length ≤ ci ∧ ∀ ad, Ai = some ad → (P ad.block ∨ w.heap.size ≤ ad.block) ∧ ad.block < w'.heap.size) ∧ Below w.heap.size w w'
section
variable {α : Type} {d : Kd α} {w w' : World} {P S : Nat → Prop} {A : Option Addr} {n c e : Nat} {xs : List α} {L : List Chunk} {i : Nat}
def Led (P : Nat → Prop) (w w' : World) (d : Kd α) (A : Option Addr) (n c : Nat) (xs : List α) : Prop := Kd.F d w' (fun k => P k ∨ w.heap.size ≤ k) A n xs ∧ n ≤ c ∧ ∀ ad, A = some ad → (P ad.block ∨ w.heap.size ≤ ad.block) ∧ ad.block < w'.heap.size
theorem led_pview (HO : Own w w' L) (hP : ∀ k, P k → k < w.heap.size) (hi : L[i]? = some (Chunk.pview w P d S A n c xs)) : Led P w w' d A n c xs :=
  ⟨Kd.F_mono (pview_F HO hP hi) fun k hk => hk.elim .inl fun h => .inr (HO.lt i hi h).1, (HO.get i hi).2.1, fun ad e => ((HO.get i hi).2.2 ad e).elim (fun h => ⟨.inl h, Nat.lt_of_lt_of_le (hP _ h) HO.below.size⟩) fun h => ⟨.inr (HO.lt i hi h).1, (HO.lt i hi h).2⟩⟩
theorem led_arg (HO : Own w w' L) (hP : ∀ k, P k → k < w.heap.size) (hF : Kd.F d w P A n xs) (hc : n ≤ c) (hA : ∀ ad, A = some ad → P ad.block) : Led P w w' d A n c xs :=
  ⟨Kd.F_mono (Kd.F_step hF fun k hk _ => HO.below.block k (hP k hk)) fun k hk => .inl hk, hc, fun ad e => ⟨.inl (hA ad e), Nat.lt_of_lt_of_le (hP _ (hA ad e)) HO.below.size⟩⟩
theorem led_nil (HO : Own w w' L) : Led P w w' d none 0 0 [] := ⟨Kd.F_nil _ _ _, Nat.le_refl _, fun ad e => by cases e⟩
theorem led_prow {base : Nat} (HO : Own w w' L) (hP : ∀ k, P k → k < w.heap.size) (hi : L[i]? = some (Chunk.prow w P d e base S (.slice A n c) xs)) : Led P w w' d A n c xs := by
  have hN := prow_N HO hP (HO.get i hi)
  have hr := Kd.N_reads' hN
  have hv := Kd.V_F (Kd.N_V (base' := base) hN)
  refine ⟨Kd.F_mono hv fun k hk => hk.elim .inl fun h => .inr (HO.lt i hi h).1, hr.2.1, fun ad e => ?_⟩
  have h1 := (HO.get i hi).1 ad.block (by rw [e]; rfl)
  exact ⟨.inr (HO.lt i hi h1).1, (HO.lt i hi h1).2⟩
end
theorem jpost_of {P : Nat → Prop} {w w' : World} {nm : ByteArray} {r : PD × Int} {ok : List PI → Prop} {d2 : PD} {m fu code : Int} {dn : Bool} {files : List SFile} {its : List SItem} {A Ai : Option Addr} {c ci : Nat} {L : List Chunk} (HO : Own w w' L) (hr : r = (d2, code)) (hk : d2.most = m ∧ d2.fuse = fu ∧ d2.down = dn) (hd : files.map ofS = d2.fs) (hi : ok (its.map toI)) (h1 : Led P w w' kFile A files.length c files) (h2 : Led P w w' kItem Ai its.length ci its) :
    JPost P w w' (.returned (.tuple #[.agg #[.slice A files.length c, .int .i64 m, .int .i64 fu, .bool dn, .string nm, .slice Ai its.length ci], .int .i64 code])) nm r ok := by
  obtain ⟨rfl, rfl, rfl⟩ := hk
  subst hr
  exact ⟨files, A, c, its, Ai, ci, hd, hi, rfl, h1, h2, HO.below⟩
end
namespace GRj0_
theorem getnum_calls (A : Option Addr) (c : Nat) (xs : List Int) (w : World) (hr : Kd.C (Kd.int .u8) w A xs.length xs) (hc : xs.length ≤ c) (hb : ByteL xs) :
    Calls Tryz.prog 65 #[.slice A xs.length c] w fun e w' => e = .returned (.tuple #[.int .i64 (gnumV xs).1, .int .i64 (gnumV xs).2]) ∧ Below w.heap.size w w' := by
 refine gw_start (N := 60) (vs := [.slice A xs.length c]) Tryz.func65 rfl rfl (by simp) fun a HF HO => ?_
 replace HO : Own w w [] := HO
 refine gR fun K1 hK1 => ?_
 refine Vc HF ?_
 intro _ H3; clear HF
 refine Vc H3 fun _ H5 => ?_
 refine gE hK1 ?_
 refine gR fun K6 hK6 => ?_
 refine Vc H5 fun _ H8 => ?_
 refine gE hK6 ?_
 refine gR fun K9 hK9 => ?_
 refine Vc H8 fun _ H11 => ?_
 refine gE hK9 ?_
 refine gw_seq fun K12 hK12 => ?_
 refine gR fun K13 hK13 => ?_
 refine Vc H11 fun _ H15 => ?_
 refine gE hK13 ?_
 clear H3 H5 H8 H11
 refine wp_block ?_
 refine gw_loop (fun m_ a_ w_ => ∃ (i : Int) (un : Int), Fr 60 a_ [(4, J (valN xs i.toNat)), (5, J un), (6, J i), (0, .slice A xs.length c)] ∧ Own w w_ [] ∧ (0 ≤ i ∧ i ≤ 9 ∧ i ≤ xs.length) ∧ (un = 128 ^ (min i.toNat 8)) ∧ (gnum xs = gnumFrom xs (10 - i.toNat) i.toNat) ∧ m_ = (9 - i.toNat)) ((9 - (0 : Int).toNat)) ?_ ?_
 ·
  refine ⟨0, 1, (H15.pick (t := 4) rfl (H15.pick (t := 5) rfl (H15.pick (t := 6) rfl (H15.pick (t := 0) rfl H15.nil)))), HO.sel [] (by decide), ?_, ?_, ?_, rfl⟩
  ·
   omega
  ·
   rfl
  rfl
 rintro m17 _ w19 ⟨i, un, H20, O21, hi, hu, hg, hm22⟩
 refine gw_seq fun K23 hK23 => ?_
 refine gR fun K24 hK24 => ?_
 refine Vm H20 fun _ H26 => ?_
 refine Vm H26 fun _ H28 => ?_
 refine V H28 (op_len Tryz.underlying22 rfl (H28.ev rfl)) fun _ H30 => ?_
 refine V H30 (op_lss rfl (H30.ev rfl) (H30.ev rfl)) fun _ H32 => ?_
 refine Vm H32 fun _ H34 => ?_
 clear H20 H26 H28 H30 H32
 refine gw_evG H34 rfl rfl rfl rfl (on_t _) rfl (by decide) (fun h_ => (op_move rfl (H34.ev rfl))) ?_
 intro _ H36; clear H34
 refine gw_evG H36 rfl rfl rfl rfl (on_t _) rfl (by decide) (fun h_ => (op_lss rfl (ev_gv (H36.ev rfl) h_) (ev_c _ _))) ?_
 intro _ H38; clear H36
 refine V H38 (op_pick_and rfl (H38.ev rfl) (fun hp_ => (ev_gv (H38.ev rfl) hp_)) (ev_c _ _)) fun _ H40 => ?_
 refine gE hK24 ?_
 clear H38
 refine gw_cond H40 rfl (fun hb41 => ?_) (fun hb41 => ?_)
 ·
  have H42 := H40.subst_ (d := 15) (b := true) rfl hb41
  clear H40
  (try simp only [Bool.and_eq_true, Bool.and_eq_false_iff, decide_eq_true_eq, decide_eq_false_iff_not, Int.not_lt] at hb41)
  refine gS hK23 ?_
  refine gw_seq fun K43 hK43 => ?_
  refine wp_block ?_
  refine gR fun K44 hK44 => ?_
  refine Vm H42 fun _ H46 => ?_
  refine Vm H46 fun _ H48 => ?_
  clear H42 H46
  obtain ⟨ad49, cs52, hA50, hl53, hK54, hc51⟩ := Kd.C_get hr (0 : Int) i (by omega) (by omega)
  obtain rfl := id hK54
  clear hl53
  refine V H48 (op_index Tryz.underlying22 gwsiz5 rfl (H48.ev rfl) (H48.ev rfl) hA50 (⟨by omega, by omega⟩)) fun _ H56 => ?_
  clear H48
  have hby := byte_getD hb i.toNat (by omega)
  refine V H56 (op_load1 gwagg5 rfl (H56.ev rfl) (O21.cell0 (at0 hc51))) fun _ H58 => ?_
  refine V H58 (op_rem rfl (H58.ev rfl) (ev_c _ _) (by omega)) fun _ H60 => ?_
  clear H56 H58
  have H61 := H60.conv (v' := .int .u8 ((xs.getD i.toNat 0) % 128)) (by congr 1; exact Int.tmod_eq_emod_of_nonneg hby.1)
  clear H60
  refine V H61 (op_conv_inb Tryz.underlying5 Tryz.underlying2 rfl (H61.ev rfl) (by omega)) fun _ H63 => ?_
  refine Va H63 fun _ H65 => ?_
  refine gE hK44 ?_
  refine gw_seq fun K66 hK66 => ?_
  refine gR fun K67 hK67 => ?_
  refine Vm H65 fun _ H69 => ?_
  refine V H69 (op_eqi rfl (H69.ev rfl) (ev_c _ _)) fun _ H71 => ?_
  refine Vm H71 fun _ H73 => ?_
  clear H61 H63 H65 H69 H71
  refine gw_evG H73 rfl rfl rfl rfl (on_t _) rfl (by decide) (fun h_ => (op_move rfl (H73.ev rfl))) ?_
  intro _ H75; clear H73
  refine gw_evG H75 rfl rfl rfl rfl (on_t _) rfl (by decide) (fun h_ => (op_gtr rfl (ev_gv (H75.ev rfl) h_) (ev_c _ _))) ?_
  intro _ H77; clear H75
  refine V H77 (op_pick_and rfl (H77.ev rfl) (fun hp_ => (ev_gv (H77.ev rfl) hp_)) (ev_c _ _)) fun _ H79 => ?_
  refine gE hK67 ?_
  clear H77
  refine gw_cond H79 rfl (fun hb80 => ?_) (fun hb80 => ?_)
  ·
   have H81 := H79.subst_ (d := 29) (b := true) rfl hb80
   clear H79
   (try simp only [Bool.and_eq_true, Bool.and_eq_false_iff, decide_eq_true_eq, decide_eq_false_iff_not, Int.not_lt] at hb80)
   refine gR fun K82 hK82 => ?_
   refine Vc H81 fun _ H84 => ?_
   refine Vc H84 fun _ H86 => ?_
   refine gE hK82 ?_
   refine wp_ret ?_
   clear H81 H84
   refine gw_thr ?_
   refine gw_blr ?_
   refine gw_thr ?_
   refine gw_thr ?_
   refine gw_blr ?_
   refine gw_thr ?_
   refine gw_ret2 H86 rfl rfl rfl ?_
   exact ⟨by rw [gnumV_none (by first | exact gn_out hi.1 hi.2.1 hg (by omega) | exact rn_big hg (by omega) (by omega) (by omega) (by omega) | (rw [gn_in hi.1 hg (by omega) (by omega), if_pos (by omega), if_neg (by omega)]))], O21.below⟩
  have H87 := H79.subst_ (d := 29) (b := false) rfl hb80
  clear H79
  (try simp only [Bool.and_eq_true, Bool.and_eq_false_iff, decide_eq_true_eq, decide_eq_false_iff_not, Int.not_lt] at hb80)
  refine gS hK66 ?_
  refine gR fun K88 hK88 => ?_
  refine Vm H87 fun _ H90 => ?_
  refine Vm H90 fun _ H92 => ?_
  refine Vm H92 fun _ H94 => ?_
  refine V H94 (op_mul rfl (H94.ev rfl) (H94.ev rfl) (by rw [hu]; have hm_ := rn_mul (xs := xs) (i := i) (by omega) (by omega); constructor <;> omega)) fun _ H96 => ?_
  refine V H96 (op_add rfl (H96.ev rfl) (H96.ev rfl) (by rw [hu]; have hm_ := rn_mul (xs := xs) (i := i) (by omega) (by omega); have hl_ := rn_lt (xs := xs) (i := i) (by omega); constructor <;> omega)) fun _ H98 => ?_
  clear H87 H90 H92 H94 H96
  have H99 := H98.conv (v' := J (valN xs (i.toNat + 1))) (by rw [hu, rn_add (by omega)])
  clear H98
  refine Va H99 fun _ H101 => ?_
  refine gE hK88 ?_
  refine gw_seq fun K102 hK102 => ?_
  refine gR fun K103 hK103 => ?_
  refine Vm H101 fun _ H105 => ?_
  refine Vm H105 fun _ H107 => ?_
  clear H99 H101 H105
  obtain ⟨ad108, cs111, hA109, hl112, hK113, hc110⟩ := Kd.C_get hr (0 : Int) i (by omega) (by omega)
  obtain rfl := id hK113
  clear hl112
  refine V H107 (op_index Tryz.underlying22 gwsiz5 rfl (H107.ev rfl) (H107.ev rfl) hA109 (⟨by omega, by omega⟩)) fun _ H115 => ?_
  refine V H115 (op_load1 gwagg5 rfl (H115.ev rfl) (O21.cell0 (at0 hc110))) fun _ H117 => ?_
  refine V H117 (op_lss rfl (H117.ev rfl) (ev_c _ _)) fun _ H119 => ?_
  refine gE hK103 ?_
  clear H107 H115 H117
  refine gw_cond H119 rfl (fun hb120 => ?_) (fun hb120 => ?_)
  ·
   have H121 := H119.subst_ (d := 39) (b := true) rfl hb120
   clear H119
   (try simp only [decide_eq_true_eq] at hb120)
   refine gw_seq fun K122 hK122 => ?_
   refine gR fun K123 hK123 => ?_
   refine Vm H121 fun _ H125 => ?_
   refine Vm H125 fun _ H127 => ?_
   clear H121 H125
   obtain ⟨ad128, cs131, hA129, hl132, hK133, hc130⟩ := Kd.C_get hr (0 : Int) i (by omega) (by omega)
   obtain rfl := id hK133
   clear hl132
   refine V H127 (op_index Tryz.underlying22 gwsiz5 rfl (H127.ev rfl) (H127.ev rfl) hA129 (⟨by omega, by omega⟩)) fun _ H135 => ?_
   refine V H135 (op_load1 gwagg5 rfl (H135.ev rfl) (O21.cell0 (at0 hc130))) fun _ H137 => ?_
   refine V H137 (op_eqi rfl (H137.ev rfl) (ev_c _ _)) fun _ H139 => ?_
   refine Vm H139 fun _ H141 => ?_
   clear H127 H135 H137 H139
   refine gw_evG H141 rfl rfl rfl rfl (on_t _) rfl (by decide) (fun h_ => (op_move rfl (H141.ev rfl))) ?_
   intro _ H143; clear H141
   refine gw_evG H143 rfl rfl rfl rfl (on_t _) rfl (by decide) (fun h_ => (op_gtr rfl (ev_gv (H143.ev rfl) h_) (ev_c _ _))) ?_
   intro _ H145; clear H143
   refine V H145 (op_pick_and rfl (H145.ev rfl) (fun hp_ => (ev_gv (H145.ev rfl) hp_)) (ev_c _ _)) fun _ H147 => ?_
   refine Vm H147 fun _ H149 => ?_
   clear H145 H147
   refine gw_evG H149 rfl rfl rfl rfl (on_f _) rfl (by decide) (fun h_ => (op_move rfl (H149.ev rfl))) ?_
   intro _ H151; clear H149
   refine gw_evG H151 rfl rfl rfl rfl (on_f _) rfl (by decide) (fun h_ => (op_gtr rfl (ev_gv (H151.ev rfl) h_) (ev_c _ _))) ?_
   intro _ H153; clear H151
   refine V H153 (op_pick_or rfl (H153.ev rfl) (ev_c _ _) (fun hp_ => (ev_gv (H153.ev rfl) (not_t hp_)))) fun _ H155 => ?_
   refine gE hK123 ?_
   clear H153
   refine gw_cond H155 rfl (fun hb156 => ?_) (fun hb156 => ?_)
   ·
    have H157 := H155.subst_ (d := 52) (b := true) rfl hb156
    clear H155
    (try simp only [Bool.and_eq_true, Bool.and_eq_false_iff, Bool.or_eq_true, Bool.or_eq_false_iff, decide_eq_true_eq, decide_eq_false_iff_not, Int.not_lt] at hb156)
    refine gR fun K158 hK158 => ?_
    refine Vc H157 fun _ H160 => ?_
    refine Vc H160 fun _ H162 => ?_
    refine gE hK158 ?_
    refine wp_ret ?_
    clear H157 H160
    refine gw_thr ?_
    refine gw_thr ?_
    refine gw_blr ?_
    refine gw_thr ?_
    refine gw_thr ?_
    refine gw_blr ?_
    refine gw_thr ?_
    refine gw_ret2 H162 rfl rfl rfl ?_
    exact ⟨by rw [gnumV_none (by first | exact gn_out hi.1 hi.2.1 hg (by omega) | exact rn_big hg (by omega) (by omega) (by omega) (by omega) | (rw [gn_in hi.1 hg (by omega) (by omega), if_pos (by omega), if_neg (by omega)]))], O21.below⟩
   have H163 := H155.subst_ (d := 52) (b := false) rfl hb156
   clear H155
   (try simp only [Bool.and_eq_true, Bool.and_eq_false_iff, Bool.or_eq_true, Bool.or_eq_false_iff, decide_eq_true_eq, decide_eq_false_iff_not, Int.not_lt] at hb156)
   refine gS hK122 ?_
   refine gR fun K164 hK164 => ?_
   refine Vm H163 fun _ H166 => ?_
   refine Vm H166 fun _ H168 => ?_
   refine V H168 (op_add rfl (H168.ev rfl) (ev_c _ _) (by omega)) fun _ H170 => ?_
   refine Va H170 fun _ H172 => ?_
   refine Va H172 fun _ H174 => ?_
   refine gE hK164 ?_
   refine wp_ret ?_
   clear H163 H166 H168 H170 H172
   refine gw_thr ?_
   refine gw_blr ?_
   refine gw_thr ?_
   refine gw_thr ?_
   refine gw_blr ?_
   refine gw_thr ?_
   refine gw_ret2 H174 rfl rfl rfl ?_
   have eg := gn_in hi.1 hg (by omega) (by omega)
   rw [if_pos (by omega), if_pos (by exact ⟨by omega, by omega⟩)] at eg
   exact ⟨by rw [gnumV_some eg, show ((i.toNat + 1 : Nat) : Int) = i + 1 by omega], O21.below⟩
  have H175 := H119.subst_ (d := 39) (b := false) rfl hb120
  clear H119
  (try simp only [decide_eq_false_iff_not, Int.not_lt] at hb120)
  refine gS hK102 ?_
  refine gR fun K176 hK176 => ?_
  refine Vm H175 fun _ H178 => ?_
  refine V H178 (op_lss rfl (H178.ev rfl) (ev_c _ _)) fun _ H180 => ?_
  refine gE hK176 ?_
  clear H175 H178
  refine gw_cond H180 rfl (fun hb181 => ?_) (fun hb181 => ?_)
  ·
   have H182 := H180.subst_ (d := 57) (b := true) rfl hb181
   clear H180
   (try simp only [decide_eq_true_eq] at hb181)
   refine wp_region_lit ?_
   refine Vm H182 fun _ H184 => ?_
   refine V H184 (op_mul rfl (H184.ev rfl) (ev_c _ _) (by rw [hu]; have hu_ := rn_u (i := i) (by omega); generalize (128 : Int) ^ (min i.toNat 8) = q_ at hu_ ⊢; constructor <;> omega)) fun _ H186 => ?_
   refine Va H186 fun _ H188 => ?_
   clear H182 H184 H186
   refine wpList_nil ?_
   refine gw_blk ?_
   refine gw_nx (hK43 _ _ ?_)
   refine wp_region_lit ?_
   refine Vm H188 fun _ H190 => ?_
   refine V H190 (op_add rfl (H190.ev rfl) (ev_c _ _) (by omega)) fun _ H192 => ?_
   refine Va H192 fun _ H194 => ?_
   clear H188 H190 H192
   refine wpList_nil ?_
   rw [show valN xs (i.toNat + 1) = valN xs (i + 1).toNat from by rw [show (i + 1).toNat = i.toNat + 1 by omega]] at H194
   refine gw_nx ⟨_, ?_, i + 1, un * 128, (H194.pick (t := 4) rfl (H194.pick (t := 5) rfl (H194.pick (t := 6) rfl (H194.pick (t := 0) rfl H194.nil)))), O21.sel [] (by decide), ?_, ?_, ?_, rfl⟩
   ·
    rw [hm22]; omega
   ·
    omega
   ·
    first | (rw [hu]; exact rn_unit (by omega)) | (rw [hu]; exact rn_unit8 (by omega) (by omega))
   rw [gn_in hi.1 hg (by omega) (by omega), if_neg (by omega)]
  have H195 := H180.subst_ (d := 57) (b := false) rfl hb181
  clear H180
  (try simp only [decide_eq_false_iff_not, Int.not_lt] at hb181)
  refine wp_skip ?_
  refine gw_blk ?_
  refine gw_nx (hK43 _ _ ?_)
  refine wp_region_lit ?_
  refine Vm H195 fun _ H197 => ?_
  refine V H197 (op_add rfl (H197.ev rfl) (ev_c _ _) (by omega)) fun _ H199 => ?_
  refine Va H199 fun _ H201 => ?_
  clear H195 H197 H199
  refine wpList_nil ?_
  rw [show valN xs (i.toNat + 1) = valN xs (i + 1).toNat from by rw [show (i + 1).toNat = i.toNat + 1 by omega]] at H201
  refine gw_nx ⟨_, ?_, i + 1, un, (H201.pick (t := 4) rfl (H201.pick (t := 5) rfl (H201.pick (t := 6) rfl (H201.pick (t := 0) rfl H201.nil)))), O21.sel [] (by decide), ?_, ?_, ?_, rfl⟩
  ·
   rw [hm22]; omega
  ·
   omega
  ·
   first | (rw [hu]; exact rn_unit (by omega)) | (rw [hu]; exact rn_unit8 (by omega) (by omega))
  rw [gn_in hi.1 hg (by omega) (by omega), if_neg (by omega)]
 have H202 := H40.subst_ (d := 15) (b := false) rfl hb41
 clear H40
 (try simp only [Bool.and_eq_true, Bool.and_eq_false_iff, decide_eq_true_eq, decide_eq_false_iff_not, Int.not_lt] at hb41)
 refine wp_exit ?_
 refine gw_thx ?_
 refine gw_thx ?_
 refine gw_in ?_
 refine gw_nx (hK12 _ _ ?_)
 refine gR fun K203 hK203 => ?_
 refine Vc H202 fun _ H205 => ?_
 refine Vc H205 fun _ H207 => ?_
 refine gE hK203 ?_
 refine wp_ret ?_
 clear H202 H205
 refine gw_ret2 H207 rfl rfl rfl ?_
 exact ⟨by rw [gnumV_none (by first | exact gn_out hi.1 hi.2.1 hg (by omega) | exact rn_big hg (by omega) (by omega) (by omega) (by omega) | (rw [gn_in hi.1 hg (by omega) (by omega), if_pos (by omega), if_neg (by omega)]))], O21.below⟩
theorem rsplit_calls (A : Option Addr) (c : Nat) (xs : List Int) (w : World) (hr : Kd.C (Kd.int .u8) w A xs.length xs) (hc : xs.length ≤ c) (hb : ByteL xs) (hl : xs.length ≤ 10000000) :
    Calls Tryz.prog 64 #[.slice A xs.length c] w fun e w' => ∃ A' c', e = .returned (.tuple #[.slice A' (Pure.splitOf xs).1.length c', .int .i64 (Pure.splitOf xs).2.1, .bool (Pure.splitOf xs).2.2]) ∧ (∀ W, Kd.C (Kd.int .u8) W A xs.length xs → Kd.C (Kd.int .u8) W A' (Pure.splitOf xs).1.length (Pure.splitOf xs).1) ∧ (Pure.splitOf xs).1.length ≤ c' ∧ (∀ ad, A' = some ad → ∃ ad0, A = some ad0 ∧ ad.block = ad0.block) ∧ Below w.heap.size w w' := by
 refine gw_start (N := 68) (vs := [.slice A xs.length c]) Tryz.func64 rfl rfl (by simp) fun a HF HO => ?_
 replace HO : Own w w [] := HO
 refine gR fun K1 hK1 => ?_
 refine Vc HF ?_
 intro _ H3; clear HF
 refine Vc H3 fun _ H5 => ?_
 refine Vc H5 fun _ H7 => ?_
 refine gE hK1 ?_
 refine gw_seq fun K8 hK8 => ?_
 refine gR fun K9 hK9 => ?_
 refine Vm H7 fun _ H11 => ?_
 refine V H11 (op_len Tryz.underlying22 rfl (H11.ev rfl)) fun _ H13 => ?_
 refine V H13 (op_lss rfl (H13.ev rfl) (ev_c _ _)) fun _ H15 => ?_
 refine gE hK9 ?_
 clear H3 H5 H7 H11 H13
 refine gw_cond H15 rfl (fun hb16 => ?_) (fun hb16 => ?_)
 ·
  have H17 := H15.subst_ (d := 11) (b := true) rfl hb16
  clear H15
  (try simp only [decide_eq_true_eq] at hb16)
  refine gR fun K18 hK18 => ?_
  refine Vc H17 fun _ H20 => ?_
  refine Vc H20 fun _ H22 => ?_
  refine Vc H22 fun _ H24 => ?_
  refine gE hK18 ?_
  refine wp_ret ?_
  clear H17 H20 H22
  refine gw_thr ?_
  refine gw_rets3 H24 rfl (rv_tmp H24 rfl) (rv_tmp H24 rfl) (rv_tmp H24 rfl) ?_
  rw [split_no (.inl (by omega))]
  exact ⟨none, 0, rfl, fun _ _ => Kd.C_nil _ _, Nat.le_refl _, (fun ad e => by cases e), HO.below⟩
 have H25 := H15.subst_ (d := 11) (b := false) rfl hb16
 clear H15
 (try simp only [decide_eq_false_iff_not, Int.not_lt] at hb16)
 have hq0 : 0 ≤ xs.getD (0 : Int).toNat (0 : Int) ∧ xs.getD (0 : Int).toNat (0 : Int) < 256 := byte_getD hb 0 (by omega)
 have hq1 : 0 ≤ xs.getD (1 : Int).toNat (0 : Int) ∧ xs.getD (1 : Int).toNat (0 : Int) < 256 := byte_getD hb 1 (by omega)
 have hq2 : 0 ≤ xs.getD (2 : Int).toNat (0 : Int) ∧ xs.getD (2 : Int).toNat (0 : Int) < 256 := byte_getD hb 2 (by omega)
 have hq3 : 0 ≤ xs.getD (3 : Int).toNat (0 : Int) ∧ xs.getD (3 : Int).toNat (0 : Int) < 256 := byte_getD hb 3 (by omega)
 have hn4 := num4_is hb (show 4 ≤ xs.length by omega)
 refine gS hK8 ?_
 refine gw_seq fun K26 hK26 => ?_
 refine gw_drawB HO (by kernel_rfl) (by kernel_rfl) fun w27 O28 => ?_
 clear HO
 refine Vn H25 (op_move rfl (H25.ev rfl)) fun _ H30 => ?_
 clear H25
 obtain ⟨ad31, cs34, hA32, hl35, hK36, hc33⟩ := Kd.C_get hr (0 : Int) 0 (by omega) (by omega)
 obtain rfl := id hK36
 clear hl35
 refine Vn H30 (op_index Tryz.underlying22 gwsiz5 rfl (H30.ev rfl) (ev_c _ _) hA32 (⟨by omega, by omega⟩)) fun _ H38 => ?_
 refine Vq H38 (fun wq hq => have HO := O28.after hq; op_load1 gwagg5 rfl (H38.ev rfl) (HO.cell0 (at0 hc33))) fun _ H40 => ?_
 refine Vn H40 (op_conv_inb Tryz.underlying5 Tryz.underlying2 rfl (H40.ev rfl) (by omega)) fun _ H42 => ?_
 refine Vn H42 (op_move rfl (H42.ev rfl)) fun _ H44 => ?_
 clear H30 H38 H40 H42
 obtain ⟨ad45, cs48, hA46, hl49, hK50, hc47⟩ := Kd.C_get hr (0 : Int) 1 (by omega) (by omega)
 obtain rfl := id hK50
 clear hl49
 refine Vn H44 (op_index Tryz.underlying22 gwsiz5 rfl (H44.ev rfl) (ev_c _ _) hA46 (⟨by omega, by omega⟩)) fun _ H52 => ?_
 refine Vq H52 (fun wq hq => have HO := O28.after hq; op_load1 gwagg5 rfl (H52.ev rfl) (HO.cell0 (at0 hc47))) fun _ H54 => ?_
 refine Vn H54 (op_conv_inb Tryz.underlying5 Tryz.underlying2 rfl (H54.ev rfl) (by omega)) fun _ H56 => ?_
 refine Vn H56 (op_mul rfl (ev_c _ _) (H56.ev rfl) (by omega)) fun _ H58 => ?_
 refine Vn H58 (op_add rfl (H58.ev rfl) (H58.ev rfl) (by omega)) fun _ H60 => ?_
 refine Vn H60 (op_move rfl (H60.ev rfl)) fun _ H62 => ?_
 clear H44 H52 H54 H56 H58 H60
 obtain ⟨ad63, cs66, hA64, hl67, hK68, hc65⟩ := Kd.C_get hr (0 : Int) 2 (by omega) (by omega)
 obtain rfl := id hK68
 clear hl67
 refine Vn H62 (op_index Tryz.underlying22 gwsiz5 rfl (H62.ev rfl) (ev_c _ _) hA64 (⟨by omega, by omega⟩)) fun _ H70 => ?_
 refine Vq H70 (fun wq hq => have HO := O28.after hq; op_load1 gwagg5 rfl (H70.ev rfl) (HO.cell0 (at0 hc65))) fun _ H72 => ?_
 refine Vn H72 (op_conv_inb Tryz.underlying5 Tryz.underlying2 rfl (H72.ev rfl) (by omega)) fun _ H74 => ?_
 refine Vn H74 (op_mul rfl (ev_c _ _) (H74.ev rfl) (by omega)) fun _ H76 => ?_
 refine Vn H76 (op_add rfl (H76.ev rfl) (H76.ev rfl) (by omega)) fun _ H78 => ?_
 refine Vn H78 (op_move rfl (H78.ev rfl)) fun _ H80 => ?_
 clear H62 H70 H72 H74 H76 H78
 obtain ⟨ad81, cs84, hA82, hl85, hK86, hc83⟩ := Kd.C_get hr (0 : Int) 3 (by omega) (by omega)
 obtain rfl := id hK86
 clear hl85
 refine Vn H80 (op_index Tryz.underlying22 gwsiz5 rfl (H80.ev rfl) (ev_c _ _) hA82 (⟨by omega, by omega⟩)) fun _ H88 => ?_
 refine Vq H88 (fun wq hq => have HO := O28.after hq; op_load1 gwagg5 rfl (H88.ev rfl) (HO.cell0 (at0 hc83))) fun _ H90 => ?_
 refine Vn H90 (op_conv_inb Tryz.underlying5 Tryz.underlying2 rfl (H90.ev rfl) (by omega)) fun _ H92 => ?_
 refine Vn H92 (op_mul rfl (ev_c _ _) (H92.ev rfl) (by omega)) fun _ H94 => ?_
 refine Vn H94 (op_add rfl (H94.ev rfl) (H94.ev rfl) (by omega)) fun _ H96 => ?_
 clear H80 H88 H90 H92 H94
 have H97 := H96.conv (v' := J (Pure.num4 xs : Int)) (congrArg (Value.int .i64) hn4.symm)
 clear H96
 refine Vn H97 (op_assign rfl (H97.ev rfl)) fun _ H99 => ?_
 clear H97
 refine wpQuiet_nil ?_
 intro w100 hq
 have O101 := O28.after hq
 clear O28 hq
 refine gw_nx (hK26 _ _ ?_)
 refine gw_seq fun K102 hK102 => ?_
 refine gR fun K103 hK103 => ?_
 refine Vm H99 fun _ H105 => ?_
 refine V H105 (op_gtr rfl (H105.ev rfl) (ev_c _ _)) fun _ H107 => ?_
 refine Vm H107 fun _ H109 => ?_
 clear H99 H105 H107
 refine gw_evG H109 rfl rfl rfl rfl (on_f _) rfl (by decide) (fun h_ => (op_move rfl (H109.ev rfl))) ?_
 intro _ H111; clear H109
 refine gw_evG H111 rfl rfl rfl rfl (on_f _) rfl (by decide) (fun h_ => (op_move rfl (H111.ev rfl))) ?_
 intro _ H113; clear H111
 refine gw_evG H113 rfl rfl rfl rfl (on_f _) rfl (by decide) (fun h_ => (op_len Tryz.underlying22 rfl (ev_gv (H113.ev rfl) h_))) ?_
 intro _ H115; clear H113
 refine gw_evG H115 rfl rfl rfl rfl (on_f _) rfl (by decide) (fun h_ => (op_sub rfl (ev_gv (H115.ev rfl) h_) (ev_c _ _) (by (try simp only [bxs_, ne_eq, bne_iff_ne, beq_iff_eq, bne_eq_false_iff_eq, beq_eq_false_iff_ne] at h_); omega))) ?_
 intro _ H117; clear H115
 refine gw_evG H117 rfl rfl rfl rfl (on_f _) rfl (by decide) (fun h_ => (op_gtr rfl (ev_gv (H117.ev rfl) h_) (ev_gv (H117.ev rfl) h_))) ?_
 intro _ H119; clear H117
 refine V H119 (op_pick_or rfl (H119.ev rfl) (ev_c _ _) (fun hp_ => (ev_gv (H119.ev rfl) (not_t hp_)))) fun _ H121 => ?_
 refine gE hK103 ?_
 clear H119
 refine gw_cond H121 rfl (fun hb122 => ?_) (fun hb122 => ?_)
 ·
  have H123 := H121.subst_ (d := 42) (b := true) rfl hb122
  clear H121
  (try simp only [Bool.or_eq_true, Bool.or_eq_false_iff, decide_eq_true_eq, decide_eq_false_iff_not, Int.not_lt] at hb122)
  refine gR fun K124 hK124 => ?_
  refine Vc H123 fun _ H126 => ?_
  refine Vc H126 fun _ H128 => ?_
  refine Vc H128 fun _ H130 => ?_
  refine gE hK124 ?_
  refine wp_ret ?_
  clear H123 H126 H128
  refine gw_thr ?_
  refine gw_rets3 H130 rfl (rv_tmp H130 rfl) (rv_tmp H130 rfl) (rv_tmp H130 rfl) ?_
  rw [split_no (.inr (by omega))]
  exact ⟨none, 0, rfl, fun _ _ => Kd.C_nil _ _, Nat.le_refl _, (fun ad e => by cases e), O101.below⟩
 have H131 := H121.subst_ (d := 42) (b := false) rfl hb122
 clear H121
 (try simp only [Bool.or_eq_true, Bool.or_eq_false_iff, decide_eq_true_eq, decide_eq_false_iff_not, Int.not_lt] at hb122)
 refine gS hK102 ?_
 refine gR fun K132 hK132 => ?_
 refine Vm H131 fun _ H134 => ?_
 refine Vm H134 fun _ H136 => ?_
 refine V H136 (op_add rfl (ev_c _ _) (H136.ev rfl) (by omega)) fun _ H138 => ?_
 clear H131 H134 H136
 obtain ⟨A139, c140, hr141, hc142, hC143, hA144⟩ := cut_lh (P := Tryz.prog) (d := (Kd.int .u8)) (t := 22) (e := 5) Tryz.underlying22 gwsiz5 A c xs hc 8 (8 + (Pure.num4 xs : Int)) (by omega) (by omega) (by omega)
 refine V H138 (op_cut Tryz.underlying22 hr141 rfl (H138.ev rfl) (some_ev (ev_c _ _)) (some_ev (H138.ev rfl))) fun _ H146 => ?_
 clear H138
 have hp8 : ((xs.drop (8 : Int).toNat).take ((8 + (Pure.num4 xs : Int)) - (8 : Int)).toNat) = ((xs.drop 8).take (Pure.num4 xs)) := by rw [show (8 + (Pure.num4 xs : Int) - (8 : Int)).toNat = Pure.num4 xs by omega]; rfl
 have hcr : Pure.crc ((xs.drop 8).take (Pure.num4 xs)) < 4294967296 := Pure.crc_lt _ (byteL_byte (take_byte (hb.drop 8) _))
 rw [hp8] at hC143 hc142
 rw [hp8] at H146
 refine Va H146 fun _ H148 => ?_
 refine gE hK132 ?_
 refine gR fun K149 hK149 => ?_
 refine Vm H148 fun _ H151 => ?_
 clear H146 H148
 refine Wk H151 Tryz.func79 rfl (ar_cons (H151.ev rfl) ar_nil) (rsum_own A139 c140 ((xs.drop 8).take (Pure.num4 xs)) _ (hC143 _ (Kd.C_below hr O101.below)) hc142 (take_byte (hb.drop 8) _) (by rw [List.length_take]; omega)) ?_
 rintro e152 w153 ⟨rfl, hb154⟩
 refine ⟨_, rfl, fun _ H156 => ?_⟩
 have O157 := O101.after hb154
 clear H151 O101 hb154
 refine V H156 (op_conv_inb Tryz.underlying108 Tryz.underlying2 rfl (H156.ev rfl) (by omega)) fun _ H160 => ?_
 clear H156
 refine Wk H160 Tryz.func78 rfl (ar_cons (H160.ev rfl) ar_nil) (rfour_own ((Pure.crc ((xs.drop 8).take (Pure.num4 xs)))) _ (by omega)) ?_
 rintro e164 w165 ⟨A161, c162, S163, rfl, hb166⟩
 refine ⟨_, rfl, fun _ H168 => ?_⟩
 have O169 := O157.fresh hb166
 have hbel170 := O157.below
 clear H160 O157 hb166
 have O171 := O169.lowrow 0 rfl (base' := w.heap.size) (Below.size hbel170)
 have hl4 : (Pure.le4 (Pure.crc ((xs.drop 8).take (Pure.num4 xs)))).length = 4 := rfl
 refine Va H168 fun _ H173 => ?_
 refine gE hK149 ?_
 refine gw_seq fun K174 hK174 => ?_
 refine gR fun K175 hK175 => ?_
 refine Vc H173 fun _ H177 => ?_
 refine gE hK175 ?_
 clear H168 H173
 refine wp_block ?_
 refine gw_loop (fun m_ a_ w_ => ∃ (i : Int), Fr 68 a_ [(8, J i), (0, .slice A xs.length c), (5, J (Pure.num4 xs : Int)), (6, .slice A139 (((xs.drop 8).take (Pure.num4 xs)).length) c140), (7, .slice A161 ((Pure.le4 (Pure.crc ((xs.drop 8).take (Pure.num4 xs)))).length) c162)] ∧ Own w w_ [Chunk.row (Kd.int .u8) 5 w.heap.size S163 (.slice A161 ((Pure.le4 (Pure.crc ((xs.drop 8).take (Pure.num4 xs)))).length) c162) (Pure.le4 (Pure.crc ((xs.drop 8).take (Pure.num4 xs))))] ∧ (0 ≤ i ∧ i ≤ 4) ∧ (∀ j : Nat, (j : Int) < i → rd (Pure.le4 (Pure.crc ((xs.drop 8).take (Pure.num4 xs)))) j = rd (xs.drop 4) j) ∧ m_ = (4 - i.toNat)) ((4 - (0 : Int).toNat)) ?_ ?_
 ·
  refine ⟨0, (H177.pick (t := 8) rfl (H177.pick (t := 0) rfl (H177.pick (t := 5) rfl (H177.pick (t := 6) rfl (H177.pick (t := 7) rfl H177.nil))))), O171.sel [0] (by decide), ?_, ?_, rfl⟩
  ·
   omega
  exact fun j_ hj_ => absurd hj_ (by omega)
 rintro m179 _ w181 ⟨i, H182, O183, hi, hw4, hm184⟩
 refine gw_seq fun K185 hK185 => ?_
 refine gR fun K186 hK186 => ?_
 refine Vm H182 fun _ H188 => ?_
 refine V H188 (op_lss rfl (H188.ev rfl) (ev_c _ _)) fun _ H190 => ?_
 refine gE hK186 ?_
 clear H182 H188
 refine gw_cond H190 rfl (fun hb191 => ?_) (fun hb191 => ?_)
 ·
  have H192 := H190.subst_ (d := 52) (b := true) rfl hb191
  clear H190
  (try simp only [decide_eq_true_eq] at hb191)
  refine gS hK185 ?_
  refine gw_seq fun K193 hK193 => ?_
  refine wp_block ?_
  refine gw_seq fun K194 hK194 => ?_
  refine gw_drawB O183 (by kernel_rfl) (by kernel_rfl) fun w195 O196 => ?_
  clear O183
  refine Vn H192 (op_move rfl (H192.ev rfl)) fun _ H198 => ?_
  refine Vn H198 (op_move rfl (H198.ev rfl)) fun _ H200 => ?_
  clear H192 H198
  obtain ⟨ad201, hA202⟩ := row_head (O196.get 0 rfl) i (by omega) (by omega)
  subst hA202
  refine Vn H200 (op_index Tryz.underlying22 gwsiz5 rfl (H200.ev rfl) (H200.ev rfl) rfl (⟨by omega, by omega⟩)) fun _ H205 => ?_
  refine Vq H205 (fun wq hq => have HO := O196.after hq; op_load1 gwagg5 rfl (H205.ev rfl) ((row_cell (HO.get 0 rfl) i (by omega) (by omega)).1)) fun _ H207 => ?_
  refine Vn H207 (op_move rfl (H207.ev rfl)) fun _ H209 => ?_
  refine Vn H209 (op_move rfl (H209.ev rfl)) fun _ H211 => ?_
  refine Vn H211 (op_add rfl (ev_c _ _) (H211.ev rfl) (by omega)) fun _ H213 => ?_
  clear H200 H205 H207 H209 H211
  obtain ⟨ad214, cs217, hA215, hl218, hK219, hc216⟩ := Kd.C_get hr (0 : Int) (4 + i) (by omega) (by omega)
  obtain rfl := id hK219
  clear hl218
  refine Vn H213 (op_index Tryz.underlying22 gwsiz5 rfl (H213.ev rfl) (H213.ev rfl) hA215 (⟨by omega, by omega⟩)) fun _ H221 => ?_
  refine Vq H221 (fun wq hq => have HO := O196.after hq; op_load1 gwagg5 rfl (H221.ev rfl) (HO.cell0 (at0 hc216))) fun _ H223 => ?_
  refine Vn H223 (op_nei rfl (H223.ev rfl) (H223.ev rfl)) fun _ H225 => ?_
  clear H213 H221 H223
  refine wpQuiet_nil ?_
  intro w226 hq
  have O227 := O196.after hq
  clear O196 hq
  refine gw_nx (hK194 _ _ ?_)
  refine gw_cond H225 rfl (fun hb228 => ?_) (fun hb228 => ?_)
  ·
   have H229 := H225.subst_ (d := 64) (b := true) rfl hb228
   clear H225
   (try simp only [decide_eq_true_eq, ne_eq] at hb228)
   have h64 : ¬ rd (Pure.le4 (Pure.crc ((xs.drop 8).take (Pure.num4 xs)))) ((i.toNat : Nat) : Int) = rd (xs.drop 4) ((i.toNat : Nat) : Int) := by rw [Pure.rd_drop, show ((4 + i.toNat : Nat) : Int) = 4 + i by omega, show ((i.toNat : Nat) : Int) = i by omega]; exact hb228
   refine gR fun K230 hK230 => ?_
   refine Vc H229 fun _ H232 => ?_
   refine Vc H232 fun _ H234 => ?_
   refine Vc H234 fun _ H236 => ?_
   refine gE hK230 ?_
   refine wp_ret ?_
   clear H229 H232 H234
   refine gw_blr ?_
   refine gw_thr ?_
   refine gw_thr ?_
   refine gw_blr ?_
   refine gw_thr ?_
   refine gw_rets3 H236 rfl (rv_tmp H236 rfl) (rv_tmp H236 rfl) (rv_tmp H236 rfl) ?_
   rw [split_bad (by omega) (by omega) (by omega) (fun e_ => h64 (((Pure.le4_num4 (xs.drop 4) (byteL_byte (hb.drop 4)) (by rw [List.length_drop]; omega) _ hcr).1 e_) i.toNat (by omega)))]
   exact ⟨none, 0, rfl, fun _ _ => Kd.C_nil _ _, Nat.le_refl _, (fun ad e => by cases e), O227.below⟩
  have H237 := H225.subst_ (d := 64) (b := false) rfl hb228
  clear H225
  (try simp only [decide_eq_false_iff_not, ne_eq, Decidable.not_not] at hb228)
  have h64 : rd (Pure.le4 (Pure.crc ((xs.drop 8).take (Pure.num4 xs)))) ((i.toNat : Nat) : Int) = rd (xs.drop 4) ((i.toNat : Nat) : Int) := by rw [Pure.rd_drop, show ((4 + i.toNat : Nat) : Int) = 4 + i by omega, show ((i.toNat : Nat) : Int) = i by omega]; exact hb228
  rw [show ((i.toNat : Nat) : Int) = i by omega] at h64
  refine wp_skip ?_
  refine gw_blk ?_
  refine gw_nx (hK193 _ _ ?_)
  refine wp_region_lit ?_
  refine Vm H237 fun _ H239 => ?_
  refine V H239 (op_add rfl (H239.ev rfl) (ev_c _ _) (by omega)) fun _ H241 => ?_
  refine Va H241 fun _ H243 => ?_
  clear H237 H239 H241
  refine wpList_nil ?_
  refine gw_nx ⟨_, ?_, i + 1, (H243.pick (t := 8) rfl (H243.pick (t := 0) rfl (H243.pick (t := 5) rfl (H243.pick (t := 6) rfl (H243.pick (t := 7) rfl H243.nil))))), O227.sel [0] (by decide), ?_, ?_, rfl⟩
  ·
   rw [hm184]; omega
  ·
   omega
  exact fun j_ hj_ => by by_cases e_ : (j_ : Int) = i; (· subst e_; exact h64); (· exact hw4 j_ (by omega))
 have H244 := H190.subst_ (d := 52) (b := false) rfl hb191
 clear H190
 (try simp only [decide_eq_false_iff_not, Int.not_lt] at hb191)
 refine wp_exit ?_
 refine gw_thx ?_
 refine gw_thx ?_
 refine gw_in ?_
 refine gw_nx (hK174 _ _ ?_)
 refine gR fun K245 hK245 => ?_
 refine Vm H244 fun _ H247 => ?_
 refine Vm H247 fun _ H249 => ?_
 refine V H249 (op_add rfl (ev_c _ _) (H249.ev rfl) (by omega)) fun _ H251 => ?_
 refine Va H251 fun _ H253 => ?_
 refine Va H253 fun _ H255 => ?_
 refine Vc H255 fun _ H257 => ?_
 refine gE hK245 ?_
 refine wp_ret ?_
 clear H244 H247 H249 H251 H253 H255
 refine gw_rets3 H257 rfl (rv_tmp H257 rfl) (rv_tmp H257 rfl) (rv_tmp H257 rfl) ?_
 rw [split_yes (by omega) (by omega) (by omega) ((Pure.le4_num4 (xs.drop 4) (byteL_byte (hb.drop 4)) (by rw [List.length_drop]; omega) _ hcr).2 (fun j_ hj_ => hw4 j_ (by omega)))]
 exact ⟨_, _, by rw [show ((Pure.num4 xs + 8 : Nat) : Int) = 8 + (Pure.num4 xs : Int) by omega], hC143, hc142, hA144, O183.below⟩
end GRj0_
export GRj0_ (getnum_calls rsplit_calls)
namespace GRj1_
theorem rec_ref (kk : Int) (Ab : Option Addr) (cb : Nat) (b : List Int) (w : World) (hr : Kd.C (Kd.int .u8) w Ab b.length b) (hc : b.length ≤ cb) (hb : ByteL b) (hl : b.length ≤ 900000) :
    Calls Tryz.prog 48 #[.agg #[.int .i64 kk, .slice Ab b.length cb]] w fun e w' => ∃ A' c' S', e = .returned (.slice A' (recI (kk, b)).length c') ∧ Out w w' (fun _ => False) [Chunk.row (Kd.int .u8) 5 w.heap.size S' (.slice A' (recI (kk, b)).length c') (recI (kk, b))] := by
 have hel := encN_len kk
 refine gw_start (N := 10) (vs := [.agg #[J kk, .slice Ab b.length cb]]) Tryz.func48 rfl rfl (by simp) fun a HF HO => ?_
 replace HO : Own w w [] := HO
 refine gR fun K1 hK1 => ?_
 refine gw_new HF HO (want_none rfl) rfl (by decide) (op_box rfl (HF.ev rfl)) ?_
 intro g2 _ w4 H5 O6; clear HF HO
 have O7 : Own w w4 [Bk g2 [J kk, .slice Ab b.length cb] 54] := O6
 clear O6
 refine Vc H5 fun _ H9 => ?_
 refine gE hK1 ?_
 refine gw_seq fun K10 hK10 => ?_
 clear H5
 refine gx_draw (M := [Bk g2 [J kk, .slice Ab b.length cb] 54]) (fun j_ => false) O7 (by kernel_rfl) fun w11 O12 => ?_
 clear O7
 refine gx_take 0 rfl (by kernel_rfl) H9 (by exact O12.sel [0] (by decide)) (want_none rfl) rfl (by decide) (fun wq HO => (op_field (gwfld54_0 _ _) rfl (H9.ev rfl))) ?_
 intro _ H14; clear H9
 refine gx_take 1 rfl (by kernel_rfl) H14 (by exact O12.sel [0] (by decide)) (want_none rfl) rfl (by decide) (fun wq HO => (op_load1 gwagg2 rfl (H14.ev rfl) (blk_at (HO.get 0 rfl) rfl))) ?_
 intro _ H16; clear H14
 refine gx_take 3 rfl (by kernel_rfl) H16 (by exact O12.sel [0] (by decide)) (want_none rfl) rfl (by decide) (fun wq HO => (op_field (gwfld54_1 _ _) rfl (H16.ev rfl))) ?_
 intro _ H18; clear H16
 refine gx_take 4 rfl (by kernel_rfl) H18 (by exact O12.sel [0] (by decide)) (want_none rfl) rfl (by decide) (fun wq HO => (op_load1 gwagg22 rfl (H18.ev rfl) (blk_at (HO.get 0 rfl) rfl))) ?_
 intro _ H20; clear H18
 refine gx_step 2 rfl (by kernel_rfl) ?_
 refine Wk H20 Tryz.func72 rfl (ar_cons (H20.ev rfl) ar_nil) (rnum_own kk _) ?_
 rintro e24 w25 ⟨A21, c22, S23, rfl, hb26⟩
 refine ⟨_, rfl, fun _ H28 => ?_⟩
 have O29 := O12.fresh hb26
 have hbel30 := O12.below
 clear H20 O12 hb26
 have O31 := O29.lowrow 0 rfl (base' := w.heap.size) (Below.size hbel30)
 refine gx_on (i := 2) (B := (fun j_ => false)) (fun _ => (by exact O31.sel [1] (by decide))) ?_
 refine gx_step 5 rfl (by kernel_rfl) ?_
 refine Wk H28 Tryz.func71 rfl (ar_cons (H28.ev rfl) (ar_cons (H28.ev rfl) ar_nil)) (rjoin_own A21 c22 (encN kk) Ab cb b _ (Kd.R_reads' (O31.get 0 rfl)).2.2 (row_cap (O31.get 0 rfl)) (Kd.C_below hr O31.below) hc (by omega)) ?_
 rintro e35 w36 ⟨A32, c33, S34, rfl, hb37⟩
 refine ⟨_, rfl, fun _ H39 => ?_⟩
 have O40 := O31.fresh hb37
 have hbel41 := O31.below
 clear H28 O31 hb37
 have O42 := O40.lowrow 0 rfl (base' := w.heap.size) (Below.size hbel41)
 refine gx_on (i := 5) (B := (fun j_ => false)) (fun _ => (by exact O42.sel [2] (by decide))) ?_
 refine gx_step 6 rfl (by kernel_rfl) ?_
 refine Wk H39 Tryz.func70 rfl (ar_cons (H39.ev rfl) ar_nil) (rrecord_own A32 c33 ((encN kk) ++ b) _ (Kd.R_reads' (O42.get 0 rfl)).2.2 (row_cap (O42.get 0 rfl)) (byteL_app (encN_byte kk) hb) (by rw [List.length_append]; omega)) ?_
 rintro e46 w47 ⟨A43, c44, S45, rfl, hb48⟩
 refine ⟨_, rfl, fun _ H50 => ?_⟩
 have O51 := O42.fresh hb48
 have hbel52 := O42.below
 clear H39 O42 hb48
 have O53 := O51.lowrow 0 rfl (base' := w.heap.size) (Below.size hbel52)
 refine gx_on (i := 6) (B := (fun j_ => false)) (fun _ => (by exact O53.sel [3] (by decide))) ?_
 refine gx_take 7 rfl (by kernel_rfl) H50 (by exact O53.sel [3] (by decide)) (want_none rfl) rfl (by decide) (fun wq HO => (op_assign rfl (H50.ev rfl))) ?_
 intro _ H55; clear H50
 refine gx_done (by kernel_rfl) ?_
 refine gw_nx (hK10 _ _ ?_)
 refine wp_ret ?_
 refine gw_ret1 H55 rfl rfl ?_
 exact ⟨_, _, _, rfl, (O53.sel [0] (by decide)).out⟩
theorem size_ref (Ai : Option Addr) (ci : Nat) (its : List S54) (w : World) (hr : Kd.C k54 w Ai its.length its) (hc : its.length ≤ ci) (hil : its.length ≤ 1000000) (hok : ∀ x ∈ its.map toI, okI x) (hsz : (recsJ (its.map toI)).length ≤ 140737488355327) :
    Calls Tryz.prog 40 #[.slice Ai its.length ci] w fun e w' => e = .returned (.int .i64 ((recsJ (its.map toI)).length : Int)) ∧ Below w.heap.size w w' := by
 refine gw_start (N := 20) (vs := [.slice Ai its.length ci]) Tryz.func40 rfl rfl (by simp) fun a HF HO => ?_
 replace HO : Own w w [] := HO
 refine gR fun K1 hK1 => ?_
 refine Vc HF ?_
 intro _ H3; clear HF
 refine gE hK1 ?_
 refine gR fun K4 hK4 => ?_
 refine Vc H3 fun _ H6 => ?_
 refine gE hK4 ?_
 refine gw_seq fun K7 hK7 => ?_
 refine gR fun K8 hK8 => ?_
 refine Vc H6 fun _ H10 => ?_
 refine gE hK8 ?_
 clear H3 H6
 refine wp_block ?_
 refine gw_loop (fun m_ a_ w_ => ∃ (i : Int) (ac : Int), Fr 20 a_ [(4, J i), (3, J ac), (0, .slice Ai its.length ci), (2, J 0)] ∧ Own w w_ [] ∧ (0 ≤ i ∧ i ≤ its.length) ∧ (ac = ((recsJ ((its.take i.toNat).map toI)).length : Int)) ∧ m_ = (its.length - i.toNat)) ((its.length - (0 : Int).toNat)) ?_ ?_
 ·
  refine ⟨0, 0, (H10.pick (t := 4) rfl (H10.pick (t := 3) rfl (H10.pick (t := 0) rfl (H10.pick (t := 2) rfl H10.nil)))), HO.sel [] (by decide), ?_, ?_, rfl⟩
  ·
   omega
  rfl
 rintro m12 _ w14 ⟨i, ac, H15, O16, hi, hac, hm17⟩
 refine gw_seq fun K18 hK18 => ?_
 refine gR fun K19 hK19 => ?_
 refine Vm H15 fun _ H21 => ?_
 refine Vm H21 fun _ H23 => ?_
 refine V H23 (op_len Tryz.underlying39 rfl (H23.ev rfl)) fun _ H25 => ?_
 refine V H25 (op_lss rfl (H25.ev rfl) (H25.ev rfl)) fun _ H27 => ?_
 refine gE hK19 ?_
 clear H15 H21 H23 H25
 refine gw_cond H27 rfl (fun hb28 => ?_) (fun hb28 => ?_)
 ·
  have H29 := H27.subst_ (d := 8) (b := true) rfl hb28
  clear H27
  (try simp only [decide_eq_true_eq] at hb28)
  refine gS hK18 ?_
  refine gw_seq fun K30 hK30 => ?_
  refine wp_block ?_
  refine wp_region_lit ?_
  refine Vm H29 fun _ H32 => ?_
  refine Vm H32 fun _ H34 => ?_
  refine Vm H34 fun _ H36 => ?_
  clear H29 H32 H34
  obtain ⟨ad37, cs40, hA38, hl41, hK42, hc39⟩ := Kd.C_get hr z54 i (by omega) (by omega)
  obtain ⟨A43, c44, rfl, hl45, hC46⟩ := k54_open hK42
  clear hl41
  refine V H36 (op_index Tryz.underlying39 gwsiz54 rfl (H36.ev rfl) (H36.ev rfl) hA38 (⟨by omega, by omega⟩)) fun _ H48 => ?_
  refine V H48 (op_loadc gwagg54 gwsiz54 rfl (H48.ev rfl) rfl (cells0 O16 hc39)) fun _ H50 => ?_
  clear H36 H48
  have hsa : (recsJ ((its.take (i.toNat + 1)).map toI)).length = (recsJ ((its.take i.toNat).map toI)).length + (recI ((its.getD i.toNat z54).f0, (its.getD i.toNat z54).f1)).length := size_at (its := its) (i := i.toNat) (by omega)
  have hsl := size_le (its := its) (i.toNat + 1)
  refine Wk H50 Tryz.func48 rfl (ar_cons (H50.ev rfl) ar_nil) (rec_ref ((its.getD i.toNat z54).f0) A43 c44 ((its.getD i.toNat z54).f1) _ (Kd.C_below hC46 O16.below) hl45 ((hok _ (it_mem (i := i.toNat) (by omega))).2.2) ((hok _ (it_mem (i := i.toNat) (by omega))).2.1)) ?_
  rintro e54 w55 ⟨A51, c52, S53, rfl, hb56⟩
  refine ⟨_, rfl, fun _ H58 => ?_⟩
  have O59 := O16.fresh hb56
  have hbel60 := O16.below
  clear H50 O16 hb56
  have O61 := O59.lowrow 0 rfl (base' := w.heap.size) (Below.size hbel60)
  refine V H58 (op_len Tryz.underlying22 rfl (H58.ev rfl)) fun _ H63 => ?_
  refine V H63 (op_add rfl (H63.ev rfl) (H63.ev rfl) (by omega)) fun _ H65 => ?_
  refine Va H65 fun _ H67 => ?_
  clear H58 H63 H65
  refine wpList_nil ?_
  refine gw_blk ?_
  refine gw_nx (hK30 _ _ ?_)
  refine wp_region_lit ?_
  refine Vm H67 fun _ H69 => ?_
  refine V H69 (op_add rfl (H69.ev rfl) (ev_c _ _) (by omega)) fun _ H71 => ?_
  refine Va H71 fun _ H73 => ?_
  clear H67 H69 H71
  refine wpList_nil ?_
  refine gw_nx ⟨_, ?_, i + 1, (ac + (((recI ((its.getD i.toNat z54).f0, (its.getD i.toNat z54).f1)).length) : Int)), (H73.pick (t := 4) rfl (H73.pick (t := 3) rfl (H73.pick (t := 0) rfl (H73.pick (t := 2) rfl H73.nil)))), O61.sel [] (by decide), ?_, ?_, rfl⟩
  ·
   rw [hm17]; omega
  ·
   omega
  rw [show (i + 1).toNat = i.toNat + 1 by omega, hsa]; omega
 have H74 := H27.subst_ (d := 8) (b := false) rfl hb28
 clear H27
 (try simp only [decide_eq_false_iff_not, Int.not_lt] at hb28)
 refine wp_exit ?_
 refine gw_thx ?_
 refine gw_thx ?_
 refine gw_in ?_
 refine gw_nx (hK7 _ _ ?_)
 refine gR fun K75 hK75 => ?_
 refine Vm H74 fun _ H77 => ?_
 refine Va H77 fun _ H79 => ?_
 refine gE hK75 ?_
 refine wp_ret ?_
 clear H74 H77
 refine gw_ret1 H79 rfl rfl ?_
 exact ⟨by rw [hac, show i.toNat = its.length by omega, size_all], O16.below⟩
theorem has_ref (Ai : Option Addr) (ci : Nat) (its : List S54) (key : Int) (w : World) (hr : Kd.C k54 w Ai its.length its) (hc : its.length ≤ ci) (hil : its.length ≤ 1000000) :
    Calls Tryz.prog 22 #[.slice Ai its.length ci, .int .i64 key] w fun e w' => e = .returned (.bool (hasJ key (its.map toI))) ∧ Below w.heap.size w w' := by
 refine gw_start (N := 19) (vs := [.slice Ai its.length ci, J key]) Tryz.func22 rfl rfl (by simp) fun a HF HO => ?_
 replace HO : Own w w [] := HO
 refine gR fun K1 hK1 => ?_
 refine Vc HF ?_
 intro _ H3; clear HF
 refine gE hK1 ?_
 refine gw_seq fun K4 hK4 => ?_
 refine gR fun K5 hK5 => ?_
 refine Vc H3 fun _ H7 => ?_
 refine gE hK5 ?_
 clear H3
 refine wp_block ?_
 refine gw_loop (fun m_ a_ w_ => ∃ (i : Int), Fr 19 a_ [(5, J i), (0, .slice Ai its.length ci), (1, J key)] ∧ Own w w_ [] ∧ (0 ≤ i ∧ i ≤ its.length) ∧ (∀ j : Nat, (j : Int) < i → (its.getD j z54).f0 ≠ key) ∧ m_ = (its.length - i.toNat)) ((its.length - (0 : Int).toNat)) ?_ ?_
 ·
  refine ⟨0, (H7.pick (t := 5) rfl (H7.pick (t := 0) rfl (H7.pick (t := 1) rfl H7.nil))), HO.sel [] (by decide), ?_, ?_, rfl⟩
  ·
   omega
  exact fun j_ hj_ => absurd hj_ (by omega)
 rintro m9 _ w11 ⟨i, H12, O13, hi, hno, hm14⟩
 refine gw_seq fun K15 hK15 => ?_
 refine gR fun K16 hK16 => ?_
 refine Vm H12 fun _ H18 => ?_
 refine Vm H18 fun _ H20 => ?_
 refine V H20 (op_len Tryz.underlying39 rfl (H20.ev rfl)) fun _ H22 => ?_
 refine V H22 (op_lss rfl (H22.ev rfl) (H22.ev rfl)) fun _ H24 => ?_
 refine gE hK16 ?_
 clear H12 H18 H20 H22
 refine gw_cond H24 rfl (fun hb25 => ?_) (fun hb25 => ?_)
 ·
  have H26 := H24.subst_ (d := 9) (b := true) rfl hb25
  clear H24
  (try simp only [decide_eq_true_eq] at hb25)
  refine gS hK15 ?_
  refine gw_seq fun K27 hK27 => ?_
  refine wp_block ?_
  refine gR fun K28 hK28 => ?_
  refine Vm H26 fun _ H30 => ?_
  refine Vm H30 fun _ H32 => ?_
  clear H26 H30
  obtain ⟨ad33, cs36, hA34, hl37, hK38, hc35⟩ := Kd.C_get hr z54 i (by omega) (by omega)
  obtain ⟨A39, c40, rfl, hl41, hC42⟩ := k54_open hK38
  clear hl37
  refine V H32 (op_index Tryz.underlying39 gwsiz54 rfl (H32.ev rfl) (H32.ev rfl) hA34 (⟨by omega, by omega⟩)) fun _ H44 => ?_
  refine V H44 (op_field (gwflda54_0 _) rfl (H44.ev rfl)) fun _ H46 => ?_
  refine V H46 (op_load1 gwagg2 rfl (H46.ev rfl) ((cells0 O13 hc35 0 _ rfl))) fun _ H48 => ?_
  refine Vm H48 fun _ H50 => ?_
  refine V H50 (op_eqi rfl (H50.ev rfl) (H50.ev rfl)) fun _ H52 => ?_
  refine gE hK28 ?_
  clear H32 H44 H46 H48 H50
  refine gw_cond H52 rfl (fun hb53 => ?_) (fun hb53 => ?_)
  ·
   have H54 := H52.subst_ (d := 18) (b := true) rfl hb53
   clear H52
   (try simp only [decide_eq_true_eq] at hb53)
   have heq := hb53
   refine gR fun K55 hK55 => ?_
   refine Vc H54 fun _ H57 => ?_
   refine gE hK55 ?_
   refine wp_ret ?_
   clear H54
   refine gw_blr ?_
   refine gw_thr ?_
   refine gw_thr ?_
   refine gw_blr ?_
   refine gw_thr ?_
   refine gw_ret1 H57 rfl rfl ?_
   exact ⟨by rw [has_yes (i := i.toNat) (by omega) heq], O13.below⟩
  have H58 := H52.subst_ (d := 18) (b := false) rfl hb53
  clear H52
  (try simp only [decide_eq_false_iff_not] at hb53)
  have hne := hb53
  refine wp_skip ?_
  refine gw_blk ?_
  refine gw_nx (hK27 _ _ ?_)
  refine wp_region_lit ?_
  refine Vm H58 fun _ H60 => ?_
  refine V H60 (op_add rfl (H60.ev rfl) (ev_c _ _) (by omega)) fun _ H62 => ?_
  refine Va H62 fun _ H64 => ?_
  clear H58 H60 H62
  refine wpList_nil ?_
  refine gw_nx ⟨_, ?_, i + 1, (H64.pick (t := 5) rfl (H64.pick (t := 0) rfl (H64.pick (t := 1) rfl H64.nil))), O13.sel [] (by decide), ?_, ?_, rfl⟩
  ·
   rw [hm14]; omega
  ·
   omega
  exact fun j_ hj_ => by by_cases e_ : j_ = i.toNat; (· rw [e_]; exact hne); (· exact hno j_ (by omega))
 have H65 := H24.subst_ (d := 9) (b := false) rfl hb25
 clear H24
 (try simp only [decide_eq_false_iff_not, Int.not_lt] at hb25)
 refine wp_exit ?_
 refine gw_thx ?_
 refine gw_thx ?_
 refine gw_in ?_
 refine gw_nx (hK4 _ _ ?_)
 refine gR fun K66 hK66 => ?_
 refine Vc H65 fun _ H68 => ?_
 refine gE hK66 ?_
 refine wp_ret ?_
 clear H65
 refine gw_ret1 H68 rfl rfl ?_
 exact ⟨by rw [has_no (fun j_ hj_ => hno j_ (by omega))], O13.below⟩
theorem get_refF (P : Nat → Prop) (Ai : Option Addr) (ci : Nat) (its : List S54) (key : Int) (w : World) (hP : ∀ k, P k → k < w.heap.size) (hF : Kd.F k54 w P Ai its.length its) (hc : its.length ≤ ci) (hil : its.length ≤ 1000000) :
    Calls Tryz.prog 43 #[.slice Ai its.length ci, .int .i64 key] w fun e w' => ∃ A' c', e = .returned (.tuple #[.slice A' ((getJ key (its.map toI)).getD []).length c', .bool (hasJ key (its.map toI))]) ∧ Kd.F (Kd.int .u8) w P A' ((getJ key (its.map toI)).getD []).length ((getJ key (its.map toI)).getD []) ∧ ((getJ key (its.map toI)).getD []).length ≤ c' ∧ Below w.heap.size w w' := by
 refine gw_start (N := 25) (vs := [.slice Ai its.length ci, J key]) Tryz.func43 rfl rfl (by simp) fun a HF HO => ?_
 replace HO : Own w w [] := HO
 refine gR fun K1 hK1 => ?_
 refine Vc HF ?_
 intro _ H3; clear HF
 refine Vc H3 fun _ H5 => ?_
 refine gE hK1 ?_
 refine gw_seq fun K6 hK6 => ?_
 refine gR fun K7 hK7 => ?_
 refine Vc H5 fun _ H9 => ?_
 refine gE hK7 ?_
 clear H3 H5
 refine wp_block ?_
 refine gw_loop (fun m_ a_ w_ => ∃ (i : Int), Fr 25 a_ [(6, J i), (0, .slice Ai its.length ci), (1, J key)] ∧ Own w w_ [] ∧ (0 ≤ i ∧ i ≤ its.length) ∧ (∀ j : Nat, (j : Int) < i → (its.getD j z54).f0 ≠ key) ∧ m_ = (its.length - i.toNat)) ((its.length - (0 : Int).toNat)) ?_ ?_
 ·
  refine ⟨0, (H9.pick (t := 6) rfl (H9.pick (t := 0) rfl (H9.pick (t := 1) rfl H9.nil))), HO.sel [] (by decide), ?_, ?_, rfl⟩
  ·
   omega
  exact fun j_ hj_ => absurd hj_ (by omega)
 rintro m11 _ w13 ⟨i, H14, O15, hi, hno, hm16⟩
 refine gw_seq fun K17 hK17 => ?_
 refine gR fun K18 hK18 => ?_
 refine Vm H14 fun _ H20 => ?_
 refine Vm H20 fun _ H22 => ?_
 refine V H22 (op_len Tryz.underlying39 rfl (H22.ev rfl)) fun _ H24 => ?_
 refine V H24 (op_lss rfl (H24.ev rfl) (H24.ev rfl)) fun _ H26 => ?_
 refine gE hK18 ?_
 clear H14 H20 H22 H24
 refine gw_cond H26 rfl (fun hb27 => ?_) (fun hb27 => ?_)
 ·
  have H28 := H26.subst_ (d := 10) (b := true) rfl hb27
  clear H26
  (try simp only [decide_eq_true_eq] at hb27)
  refine gS hK17 ?_
  refine gw_seq fun K29 hK29 => ?_
  refine wp_block ?_
  refine gR fun K30 hK30 => ?_
  refine Vm H28 fun _ H32 => ?_
  refine Vm H32 fun _ H34 => ?_
  clear H28 H32
  obtain ⟨ad35, cs38, hA36, hl39, hK40, hc37, _⟩ := Kd.F_get hF z54 i (by omega) (by omega)
  obtain ⟨A41, c42, rfl, hl43, hC44⟩ := k54_openF hK40
  clear hl39
  refine V H34 (op_index Tryz.underlying39 gwsiz54 rfl (H34.ev rfl) (H34.ev rfl) hA36 (⟨by omega, by omega⟩)) fun _ H46 => ?_
  refine V H46 (op_field (gwflda54_0 _) rfl (H46.ev rfl)) fun _ H48 => ?_
  refine V H48 (op_load1 gwagg2 rfl (H48.ev rfl) ((cells0 O15 hc37 0 _ rfl))) fun _ H50 => ?_
  refine Vm H50 fun _ H52 => ?_
  refine V H52 (op_eqi rfl (H52.ev rfl) (H52.ev rfl)) fun _ H54 => ?_
  refine gE hK30 ?_
  clear H34 H46 H48 H50 H52
  refine gw_cond H54 rfl (fun hb55 => ?_) (fun hb55 => ?_)
  ·
   have H56 := H54.subst_ (d := 19) (b := true) rfl hb55
   clear H54
   (try simp only [decide_eq_true_eq] at hb55)
   have heq := hb55
   refine gR fun K57 hK57 => ?_
   refine Vm H56 fun _ H59 => ?_
   refine Vm H59 fun _ H61 => ?_
   clear H56 H59
   obtain ⟨ad62, cs65, hA63, hl66, hK67, hc64, _⟩ := Kd.F_get hF z54 i (by omega) (by omega)
   obtain ⟨A68, c69, rfl, hl70, hC71⟩ := k54_openF hK67
   clear hl66
   refine V H61 (op_index Tryz.underlying39 gwsiz54 rfl (H61.ev rfl) (H61.ev rfl) hA63 (⟨by omega, by omega⟩)) fun _ H73 => ?_
   refine V H73 (op_field (gwflda54_1 _) rfl (H73.ev rfl)) fun _ H75 => ?_
   refine V H75 (op_load1 gwagg22 rfl (H75.ev rfl) ((cells0 O15 hc64 1 _ rfl))) fun _ H77 => ?_
   refine Va H77 fun _ H79 => ?_
   refine Vc H79 fun _ H81 => ?_
   refine gE hK57 ?_
   refine wp_ret ?_
   clear H61 H73 H75 H77 H79
   refine gw_blr ?_
   refine gw_thr ?_
   refine gw_thr ?_
   refine gw_blr ?_
   refine gw_thr ?_
   refine gw_ret2 H81 rfl rfl rfl ?_
   have hg_ := get_yes (i := i.toNat) (by omega) heq (fun j_ hj_ => hno j_ (by omega))
   rw [has_yes (i := i.toNat) (by omega) heq, hg_]
   exact ⟨_, _, rfl, hC71, hl70, O15.below⟩
  have H82 := H54.subst_ (d := 19) (b := false) rfl hb55
  clear H54
  (try simp only [decide_eq_false_iff_not] at hb55)
  have hne := hb55
  refine wp_skip ?_
  refine gw_blk ?_
  refine gw_nx (hK29 _ _ ?_)
  refine wp_region_lit ?_
  refine Vm H82 fun _ H84 => ?_
  refine V H84 (op_add rfl (H84.ev rfl) (ev_c _ _) (by omega)) fun _ H86 => ?_
  refine Va H86 fun _ H88 => ?_
  clear H82 H84 H86
  refine wpList_nil ?_
  refine gw_nx ⟨_, ?_, i + 1, (H88.pick (t := 6) rfl (H88.pick (t := 0) rfl (H88.pick (t := 1) rfl H88.nil))), O15.sel [] (by decide), ?_, ?_, rfl⟩
  ·
   rw [hm16]; omega
  ·
   omega
  exact fun j_ hj_ => by by_cases e_ : j_ = i.toNat; (· rw [e_]; exact hne); (· exact hno j_ (by omega))
 have H89 := H26.subst_ (d := 10) (b := false) rfl hb27
 clear H26
 (try simp only [decide_eq_false_iff_not, Int.not_lt] at hb27)
 refine wp_exit ?_
 refine gw_thx ?_
 refine gw_thx ?_
 refine gw_in ?_
 refine gw_nx (hK6 _ _ ?_)
 refine gR fun K90 hK90 => ?_
 refine Vc H89 fun _ H92 => ?_
 refine Vc H92 fun _ H94 => ?_
 refine gE hK90 ?_
 refine wp_ret ?_
 clear H89 H92
 refine gw_ret2 H94 rfl rfl rfl ?_
 have hn_ := has_no (fun j_ hj_ => hno j_ (by omega))
 have hg_ : getJ key (its.map toI) = none := by unfold hasJ at hn_; exact Option.not_isSome_iff_eq_none.1 (by rw [hn_]; decide)
 rw [hn_, hg_]
 exact ⟨none, 0, rfl, Kd.F_nil _ _ _, Nat.le_refl _, O15.below⟩
end GRj1_
export GRj1_ (rec_ref size_ref has_ref get_refF)
namespace GRj2_
theorem scan_ref (P : Nat → Prop) (Ab : Option Addr) (cb : Nat) (b : List Int) (w : World) (hP : ∀ k, P k → k < w.heap.size) (hF : Kd.F (Kd.int .u8) w P Ab b.length b) (hcb : b.length ≤ cb) (hb : ByteL b) (hl : b.length ≤ 1000000) :
    Calls Tryz.prog 39 #[.slice Ab b.length cb] w fun e w' => ∃ (its : List S54) (Ai : Option Addr) (ci : Nat), its.map toI = (scanJ b).1 ∧ e = .returned (.slice Ai its.length ci) ∧ Led P w w' kItem Ai its.length ci its ∧ Below w.heap.size w w' := by
 refine gw_start (N := 54) (vs := [.slice Ab b.length cb]) Tryz.func39 rfl rfl (by simp) fun a HF HO => ?_
 replace HO : Own w w [] := HO
 refine gR fun K1 hK1 => ?_
 refine Vc HF ?_
 intro _ H3; clear HF
 refine gE hK1 ?_
 refine gR fun K4 hK4 => ?_
 refine gw_plit0 k54 P (e := 54) H3 HO (want_none rfl) rfl (by decide) (op_bslice (by kernel_rfl) rfl pt_nil) hP ?_
 intro A5 S6 _ w8 H9 O10; clear H3 HO
 have O11 : Own w w8 [Chunk.prow w P k54 54 w.heap.size S6 (.slice A5 (([] : List S54).length) 0) ([] : List S54)] := O10
 clear O10
 refine Va H9 fun _ H13 => ?_
 refine gE hK4 ?_
 clear H9
 refine wp_block ?_
 refine gw_loop (fun m_ a_ w_ => ∃ (bb : List Int) (Av : Option Addr) (cv : Nat) (out : List S54) (Ao : Option Addr) (co : Nat) (So : Nat → Prop) (sz : Int) (f : Nat), Fr 54 a_ [(0, .slice Av bb.length cv), (3, .slice Ao out.length co)] ∧ Own w w_ [Chunk.prow w P k54 54 w.heap.size So (.slice Ao out.length co) out] ∧ (Kd.F (Kd.int .u8) w P Av bb.length bb) ∧ (bb.length ≤ cv) ∧ (ByteL bb) ∧ (bb.length ≤ 1000000) ∧ (scanS f bb (out.map toI) sz = scanJ b) ∧ (bb.length < f) ∧ (out.length + bb.length ≤ b.length) ∧ m_ = bb.length) ((b : List Int).length) ?_ ?_
 ·
  refine ⟨b, Ab, cb, [], A5, 0, _, 0, (b.length + 1), (H13.pick (t := 0) rfl (H13.pick (t := 3) rfl H13.nil)), O11.sel [0] (by decide), ?_, ?_, ?_, ?_, ?_, ?_, ?_, rfl⟩
  ·
   exact hF
  ·
   exact hcb
  ·
   exact hb
  ·
   exact hl
  ·
   rfl
  ·
   omega
  simp
 rintro m15 _ w17 ⟨bb, Av, cv, out, Ao, co, So, sz, f, H18, O19, hFv, hcv, hbb, hbl, hsc, hff, hol, hm20⟩
 refine wp_block ?_
 refine gR fun K21 hK21 => ?_
 refine Vm H18 fun _ H23 => ?_
 clear H18
 refine Wk H23 Tryz.func64 rfl (ar_cons (H23.ev rfl) ar_nil) (rsplit_calls Av cv bb _ (Kd.C_below (Kd.F_now hFv) O19.below) hcv (hbb) (by omega)) ?_
 rintro e29 w30 ⟨A24, c25, rfl, hC26, hc27, hA28, hb31⟩
 refine ⟨_, rfl, fun _ H33 => ?_⟩
 have O34 := O19.after hb31
 clear H23 O19 hb31
 have hsl := split_len bb
 refine Vm H33 fun _ H37 => ?_
 refine Vx H37 fun _ H39 => ?_
 refine Vx H39 fun _ H41 => ?_
 refine Vx H41 fun _ H43 => ?_
 refine Va H43 fun _ H45 => ?_
 refine Va H45 fun _ H47 => ?_
 refine Va H47 fun _ H49 => ?_
 refine gE hK21 ?_
 refine gw_seq fun K50 hK50 => ?_
 refine gR fun K51 hK51 => ?_
 refine Vm H49 fun _ H53 => ?_
 clear H33 H37 H39 H41 H43 H45 H47 H49
 refine V H53 (op_not rfl (H53.ev rfl)) fun _ H55 => ?_
 refine gE hK51 ?_
 clear H53
 refine gw_cond H55 rfl (fun hb56 => ?_) (fun hb56 => ?_)
 ·
  have H57 := H55.subst_ (d := 17) (b := true) rfl hb56
  clear H55
  (try simp only [Bool.and_eq_true, Bool.and_eq_false_iff, Bool.not_and, Bool.or_eq_true, Bool.or_eq_false_iff, Bool.not_or, Bool.not_not, Bool.not_eq_true', Bool.not_eq_false', Bool.not_eq_true, Bool.not_eq_false] at hb56)
  have hok : (Pure.splitOf bb).2.2 = false := by simpa using hb56
  refine gR fun K58 hK58 => ?_
  refine Vm H57 fun _ H60 => ?_
  refine Va H60 fun _ H62 => ?_
  refine gE hK58 ?_
  refine wp_ret ?_
  clear H57 H60
  refine gw_thr ?_
  refine gw_blr ?_
  refine gw_thr ?_
  refine gw_blr ?_
  refine gw_ret1 H62 rfl rfl ?_
  have hst_ : scanS f bb (out.map toI) sz = (out.map toI, sz) := by exact scan_stop1 hok
  have hr_ : out.map toI = (scanJ b).1 := by rw [← hsc, hst_]
  exact ⟨out, _, _, hr_, rfl, led_prow (i := 0) O34 hP rfl, O34.below⟩
 have H63 := H55.subst_ (d := 17) (b := false) rfl hb56
 clear H55
 (try simp only [Bool.and_eq_true, Bool.and_eq_false_iff, Bool.not_and, Bool.or_eq_true, Bool.or_eq_false_iff, Bool.not_or, Bool.not_not, Bool.not_eq_true', Bool.not_eq_false', Bool.not_eq_true, Bool.not_eq_false] at hb56)
 have hok : (Pure.splitOf bb).2.2 = true := by simpa using hb56
 have hsi := split_in hok
 refine gS hK50 ?_
 refine gR fun K64 hK64 => ?_
 refine Vm H63 fun _ H66 => ?_
 clear H63
 have hgv := gnumV_b (Pure.splitOf bb).1
 refine Wk H66 Tryz.func65 rfl (ar_cons (H66.ev rfl) ar_nil) (getnum_calls A24 c25 ((Pure.splitOf bb).1) _ (Kd.C_below (Kd.F_now (F_mapC hFv hC26)) O34.below) hc27 (split_byte hbb)) ?_
 rintro e67 w68 ⟨rfl, hb69⟩
 refine ⟨_, rfl, fun _ H71 => ?_⟩
 have O72 := O34.after hb69
 clear H66 O34 hb69
 refine Vm H71 fun _ H75 => ?_
 refine Vx H75 fun _ H77 => ?_
 refine Vx H77 fun _ H79 => ?_
 refine Va H79 fun _ H81 => ?_
 refine Va H81 fun _ H83 => ?_
 refine gE hK64 ?_
 refine gw_seq fun K84 hK84 => ?_
 refine gR fun K85 hK85 => ?_
 refine Vm H83 fun _ H87 => ?_
 refine V H87 (op_eqi rfl (H87.ev rfl) (ev_c _ _)) fun _ H89 => ?_
 refine Vm H89 fun _ H91 => ?_
 clear H71 H75 H77 H79 H81 H83 H87 H89
 refine gw_evG H91 rfl rfl rfl rfl (on_f _) rfl (by decide) (fun h_ => (op_move rfl (H91.ev rfl))) ?_
 intro _ H93; clear H91
 refine gw_evG H93 rfl rfl rfl rfl (on_f _) rfl (by decide) (fun h_ => (op_gtr rfl (ev_gv (H93.ev rfl) h_) (ev_c _ _))) ?_
 intro _ H95; clear H93
 refine V H95 (op_pick_or rfl (H95.ev rfl) (ev_c _ _) (fun hp_ => (ev_gv (H95.ev rfl) (not_t hp_)))) fun _ H97 => ?_
 refine Vm H97 fun _ H99 => ?_
 clear H95 H97
 refine gw_evG H99 rfl rfl rfl rfl (on_f _) rfl (by decide) (fun h_ => (op_move rfl (H99.ev rfl))) ?_
 intro _ H101; clear H99
 refine gw_evG H101 rfl rfl rfl rfl (on_f _) rfl (by decide) (fun h_ => (op_len Tryz.underlying22 rfl (ev_gv (H101.ev rfl) h_))) ?_
 intro _ H103; clear H101
 refine gw_evG H103 rfl rfl rfl rfl (on_f _) rfl (by decide) (fun h_ => (op_move rfl (H103.ev rfl))) ?_
 intro _ H105; clear H103
 refine gw_evG H105 rfl rfl rfl rfl (on_f _) rfl (by decide) (fun h_ => (op_sub rfl (ev_gv (H105.ev rfl) h_) (ev_gv (H105.ev rfl) h_) (by (try simp only [bxs_, ne_eq, bne_iff_ne, beq_iff_eq, bne_eq_false_iff_eq, beq_eq_false_iff_ne] at h_); omega))) ?_
 intro _ H107; clear H105
 refine gw_evG H107 rfl rfl rfl rfl (on_f _) rfl (by decide) (fun h_ => (op_gtr rfl (ev_gv (H107.ev rfl) h_) (ev_c _ _))) ?_
 intro _ H109; clear H107
 refine V H109 (op_pick_or rfl (H109.ev rfl) (ev_c _ _) (fun hp_ => (ev_gv (H109.ev rfl) (not_t hp_)))) fun _ H111 => ?_
 refine Vm H111 fun _ H113 => ?_
 clear H109 H111
 refine gw_evG H113 rfl rfl rfl rfl (on_f _) rfl (by decide) (fun h_ => (op_move rfl (H113.ev rfl))) ?_
 intro _ H115; clear H113
 refine gw_evG H115 rfl rfl rfl rfl (on_f _) rfl (by decide) (fun h_ => (op_move rfl (H115.ev rfl))) ?_
 intro _ H117; clear H115
 refine gw_callG H117 rfl rfl rfl rfl (on_f _) rfl (by decide) (fun h_ => (op_callL Tryz.func22 (by kernel_rfl) rfl rfl (ar_cons (ev_gv (H117.ev rfl) h_) (ar_cons (ev_gv (H117.ev rfl) h_) ar_nil)))) (fun h_ => has_ref Ao co out ((gnumV ((Pure.splitOf bb).1)).1) _ (Kd.N_reads' (prow_N O72 hP (O72.get 0 rfl))).2.2 (prow_slice O72 hP (O72.get 0 rfl)).2 (by (try simp only [bxs_, ne_eq, bne_iff_ne, beq_iff_eq, bne_eq_false_iff_eq, beq_eq_false_iff_ne] at h_); omega)) ?_
 intro _ w120 hb121 H119
 have O122 := O72.after hb121; clear H117 O72 hb121
 refine V H119 (op_pick_or rfl (H119.ev rfl) (ev_c _ _) (fun hp_ => (ev_gv (H119.ev rfl) (not_t hp_)))) fun _ H124 => ?_
 refine gE hK85 ?_
 clear H119
 refine gw_cond H124 rfl (fun hb125 => ?_) (fun hb125 => ?_)
 ·
  have H126 := H124.subst_ (d := 41) (b := true) rfl hb125
  clear H124
  (try simp only [Bool.or_eq_true, Bool.or_eq_false_iff, decide_eq_true_eq, decide_eq_false_iff_not, Int.not_lt] at hb125)
  have hcut : (decide ((gnumV (Pure.splitOf bb).1).2 = 0) || decide (1099511627776 < (gnumV (Pure.splitOf bb).1).1) || decide (536870912 < ((Pure.splitOf bb).1.length : Int) - (gnumV (Pure.splitOf bb).1).2)) = true ∨ hasJ (gnumV (Pure.splitOf bb).1).1 (out.map toI) = true := by simpa [or_assoc] using hb125
  refine gR fun K127 hK127 => ?_
  refine Vm H126 fun _ H129 => ?_
  refine Va H129 fun _ H131 => ?_
  refine gE hK127 ?_
  refine wp_ret ?_
  clear H126 H129
  refine gw_thr ?_
  refine gw_blr ?_
  refine gw_thr ?_
  refine gw_blr ?_
  refine gw_ret1 H131 rfl rfl ?_
  have hst_ : scanS f bb (out.map toI) sz = (out.map toI, sz) := by rcases hcut with h_ | h_; (· exact scan_stop2 hok (ent_none (Pure.splitOf bb).1 h_)); (· by_cases hen_ : (gnumV (Pure.splitOf bb).1).2 = 0 ∨ 1099511627776 < (gnumV (Pure.splitOf bb).1).1 ∨ 536870912 < ((Pure.splitOf bb).1.length : Int) - (gnumV (Pure.splitOf bb).1).2; (· exact scan_stop2 hok (ent_none (Pure.splitOf bb).1 (by simp only [Bool.or_eq_true, decide_eq_true_eq]; omega))); (· exact scan_stop3 hok (ent_some (Pure.splitOf bb).1 (by omega)) h_))
  have hr_ : out.map toI = (scanJ b).1 := by rw [← hsc, hst_]
  exact ⟨out, _, _, hr_, rfl, led_prow (i := 0) O122 hP rfl, O122.below⟩
 have H132 := H124.subst_ (d := 41) (b := false) rfl hb125
 clear H124
 (try simp only [Bool.or_eq_true, Bool.or_eq_false_iff, decide_eq_true_eq, decide_eq_false_iff_not, Int.not_lt] at hb125)
 have hgo : ¬ ((gnumV (Pure.splitOf bb).1).2 = 0 ∨ 1099511627776 < (gnumV (Pure.splitOf bb).1).1 ∨ 536870912 < ((Pure.splitOf bb).1.length : Int) - (gnumV (Pure.splitOf bb).1).2) ∧ hasJ (gnumV (Pure.splitOf bb).1).1 (out.map toI) = false := by simpa [not_or, and_assoc] using hb125
 have hen := ent_some (Pure.splitOf bb).1 hgo.1
 have hhas := hgo.2
 have hgn : (gnumV (Pure.splitOf bb).1).2 ≠ 0 := fun h_ => hgo.1 (.inl h_)
 refine gS hK84 ?_
 refine gR fun K133 hK133 => ?_
 refine Vm H132 fun _ H135 => ?_
 refine Vm H135 fun _ H137 => ?_
 refine Vm H137 fun _ H139 => ?_
 refine Vm H139 fun _ H141 => ?_
 clear H132 H135 H137 H139
 obtain ⟨A142, c143, hr144, hc145, hC146, hA147⟩ := cut_lo (P := Tryz.prog) (d := (Kd.int .u8)) (t := 22) (e := 5) Tryz.underlying22 gwsiz5 A24 c25 ((Pure.splitOf bb).1) hc27 ((gnumV ((Pure.splitOf bb).1)).2) (by omega) (by omega)
 refine V H141 (op_cut Tryz.underlying22 hr144 rfl (H141.ev rfl) (some_ev (H141.ev rfl)) rfl) fun _ H149 => ?_
 refine V H149 (op_build (cells := #[J ((gnumV ((Pure.splitOf bb).1)).1), .slice A142 ((((Pure.splitOf bb).1).drop ((gnumV ((Pure.splitOf bb).1)).2).toNat).length) c143]) rfl (pt_cons (H149.ev rfl) (pt_cons (H149.ev rfl) pt_nil)) (by kernel_rfl)) fun _ H151 => ?_
 clear H141 H149
 refine gw_news (O := .cells #[J ((gnumV ((Pure.splitOf bb).1)).1), .slice A142 ((((Pure.splitOf bb).1).drop ((gnumV ((Pure.splitOf bb).1)).2).toNat).length) c143] 54 (0, 0)) (n := 1) H151 O122 (want_none rfl) rfl (by decide) (op_bslice (by kernel_rfl) rfl (pt_cons (H151.ev rfl) pt_nil)) ?_
 intro g152 _ w154 H155 O156; clear H151 O122
 have O157 : Own w w154 [Bk g152 [J ((gnumV ((Pure.splitOf bb).1)).1), .slice A142 ((((Pure.splitOf bb).1).drop ((gnumV ((Pure.splitOf bb).1)).2).toNat).length) c143] 54, Chunk.prow w P k54 54 w.heap.size So (.slice Ao out.length co) out] := O156
 clear O156
 refine gw_pappend1 k54 (cs := [J ((gnumV ((Pure.splitOf bb).1)).1), .slice A142 ((((Pure.splitOf bb).1).drop ((gnumV ((Pure.splitOf bb).1)).2).toNat).length) c143]) (p := (⟨(gnumV ((Pure.splitOf bb).1)).1, (((Pure.splitOf bb).1).drop ((gnumV ((Pure.splitOf bb).1)).2).toNat)⟩ : S54)) hP H155 (by exact O157.sel [1, 0] (by decide)) (want_none rfl) rfl (by decide) rfl Tryz.underlying39 gwinfo54 rfl (by decide) (by decide) (H155.ev rfl) (H155.ev rfl) (k54_mkF _ _ (⟨(gnumV ((Pure.splitOf bb).1)).1, (((Pure.splitOf bb).1).drop ((gnumV ((Pure.splitOf bb).1)).2).toNat)⟩ : S54) hc145 (F_mapC (F_mapC hFv hC26) hC146)) O157.below.size (by first | omega | (simp; omega)) ?_
 intro A158 c159 S160 _ w162 H163 O164; clear H155 O157
 have O165 : Own w w162 [Chunk.prow w P k54 54 w.heap.size S160 (.slice A158 ((out ++ [(⟨(gnumV ((Pure.splitOf bb).1)).1, (((Pure.splitOf bb).1).drop ((gnumV ((Pure.splitOf bb).1)).2).toNat)⟩ : S54)]).length) c159) (out ++ [(⟨(gnumV ((Pure.splitOf bb).1)).1, (((Pure.splitOf bb).1).drop ((gnumV ((Pure.splitOf bb).1)).2).toNat)⟩ : S54)])] := O164
 clear O164
 refine Va H163 fun _ H167 => ?_
 refine gE hK133 ?_
 clear H163
 refine wp_region_lit ?_
 refine Vm H167 fun _ H169 => ?_
 refine Vm H169 fun _ H171 => ?_
 clear H167 H169
 obtain ⟨A172, c173, hr174, hc175, hC176, hA177⟩ := cut_lo (P := Tryz.prog) (d := (Kd.int .u8)) (t := 22) (e := 5) Tryz.underlying22 gwsiz5 Av cv bb hcv ((Pure.splitOf bb).2.1) (by omega) (by omega)
 refine V H171 (op_cut Tryz.underlying22 hr174 rfl (H171.ev rfl) (some_ev (H171.ev rfl)) rfl) fun _ H179 => ?_
 refine Va H179 fun _ H181 => ?_
 clear H171 H179
 refine wpList_nil ?_
 refine gw_blk ?_
 refine gw_nx ⟨_, ?_, (bb.drop ((Pure.splitOf bb).2.1).toNat), A172, c173, (out ++ [(⟨(gnumV ((Pure.splitOf bb).1)).1, (((Pure.splitOf bb).1).drop ((gnumV ((Pure.splitOf bb).1)).2).toNat)⟩ : S54)]), A158, c159, _, (sz + (Pure.splitOf bb).2.1), (f - 1), (H181.pick (t := 0) rfl (H181.pick (t := 3) rfl H181.nil)), O165.sel [0] (by decide), ?_, ?_, ?_, ?_, ?_, ?_, ?_, rfl⟩
 ·
  rw [hm20]; rw [List.length_drop]; omega
 ·
  exact (F_mapC hFv hC176)
 ·
  exact hc175
 ·
  exact hbb.drop _
 ·
  rw [List.length_drop]; omega
 ·
  rw [List.map_append, ← hsc, scan_go (by omega) hok hen hhas]; rfl
 ·
  rw [List.length_drop]; omega
 rw [List.length_append, List.length_singleton, List.length_drop]; omega
theorem read_refF (P : Nat → Prop) (Af : Option Addr) (cf : Nat) (files : List S38) (d : PD) (nm : ByteArray) (w : World) (hP : ∀ k, P k → k < w.heap.size) (hF : Kd.F k38 w P Af files.length files) (hcf : files.length ≤ cf) (hlf : files.length ≤ 1000000) (hd : files.map ofS = d.fs) :
    Calls Tryz.prog 37 #[.agg #[.slice Af files.length cf, .int .i64 d.most, .int .i64 d.fuse, .bool d.down], .string nm] w fun e w' => ∃ A' c', e = .returned (.tuple #[.slice A' (readD nm d).1.length c', .int .i64 (readD nm d).2]) ∧ Kd.F (Kd.int .u8) w P A' (readD nm d).1.length (readD nm d).1 ∧ (readD nm d).1.length ≤ c' ∧ Below w.heap.size w w' := by
 refine gw_start (N := 20) (vs := [.agg #[.slice Af files.length cf, J d.most, J d.fuse, .bool d.down], .string nm]) Tryz.func37 rfl rfl (by simp) fun a HF HO => ?_
 replace HO : Own w w [] := HO
 rcases find3 nm z38 files with ⟨hfi, hgd⟩ | ⟨i0, hfi, hi0, hgd⟩
 ·
  rw [hd] at hgd
  refine gR fun K1 hK1 => ?_
  refine gw_new HF HO (want_none rfl) rfl (by decide) (op_box rfl (HF.ev rfl)) ?_
  intro g2 _ w4 H5 O6; clear HF HO
  have O7 : Own w w4 [Bk g2 [.slice Af files.length cf, J d.most, J d.fuse, .bool d.down] 34] := O6
  clear O6
  refine Vc H5 fun _ H9 => ?_
  refine Vc H9 fun _ H11 => ?_
  refine gE hK1 ?_
  refine gw_seq fun K12 hK12 => ?_
  refine gR fun K13 hK13 => ?_
  refine Vf H11 (gwfld34_3 _ _) fun _ H15 => ?_
  refine Vl H15 gwagg4 (O7.get 0 rfl) fun _ H17 => ?_
  refine gE hK13 ?_
  clear H5 H9 H11 H15
  refine gw_cond H17 rfl (fun hb18 => ?_) (fun hb18 => ?_)
  ·
   have H19 := H17.subst_ (d := 8) (b := true) rfl hb18
   clear H17
   (try simp only [Bool.not_eq_true] at hb18)
   have hdn := hb18
   refine gR fun K20 hK20 => ?_
   refine Vc H19 fun _ H22 => ?_
   refine Vc H22 fun _ H24 => ?_
   refine gE hK20 ?_
   refine wp_ret ?_
   clear H19 H22
   refine gw_thr ?_
   refine gw_ret2 H24 rfl rfl rfl ?_
   rw [read_down hdn]
   exact ⟨none, 0, rfl, Kd.F_nil _ _ _, Nat.le_refl _, O7.below⟩
  have H25 := H17.subst_ (d := 8) (b := false) rfl hb18
  clear H17
  (try simp only [Bool.not_eq_true] at hb18)
  have hdn : d.down = false := by simpa using hb18
  refine gS hK12 ?_
  refine gR fun K26 hK26 => ?_
  refine V H25 (op_loadn gwagg34 gwsiz34 rfl (H25.ev rfl) (O7.get 0 rfl) rfl rfl) fun _ H28 => ?_
  refine Vm H28 fun _ H30 => ?_
  clear H25 H28
  refine Wk H30 Tryz.func60 rfl (ar_cons (H30.ev rfl) (ar_cons (H30.ev rfl) ar_nil)) (find_ref Af cf files d.most d.fuse d.down nm _ (Kd.C_below (Kd.F_now hF) O7.below) hcf hlf) ?_
  rintro e31 w32 ⟨rfl, hb33⟩
  refine ⟨_, rfl, fun _ H35 => ?_⟩
  have O36 := O7.after hb33
  clear H30 O7 hb33
  have H38 := H35.conv (v' := J (-1)) (congrArg (Value.int .i64) hfi)
  clear H35
  refine Va H38 fun _ H40 => ?_
  refine gE hK26 ?_
  refine gw_seq fun K41 hK41 => ?_
  refine gR fun K42 hK42 => ?_
  refine Vm H40 fun _ H44 => ?_
  refine V H44 (op_lss rfl (H44.ev rfl) (ev_c _ _)) fun _ H46 => ?_
  clear H38 H40 H44
  have H47 := H46.lit (b := true) (by decide)
  clear H46
  refine gE hK42 ?_
  refine gw_cond H47 rfl (fun hb48 => ?_) (fun hb48 => ?_)
  rotate_left
  ·
   cases hb48
  refine gR fun K49 hK49 => ?_
  refine Vc H47 fun _ H51 => ?_
  refine Vc H51 fun _ H53 => ?_
  refine gE hK49 ?_
  refine wp_ret ?_
  clear H47 H51
  refine gw_thr ?_
  refine gw_ret2 H53 rfl rfl rfl ?_
  rw [read_none hdn hgd]
  exact ⟨none, 0, rfl, Kd.F_nil _ _ _, Nat.le_refl _, O36.below⟩
 rw [hd] at hgd
 refine gR fun K54 hK54 => ?_
 refine gw_new HF HO (want_none rfl) rfl (by decide) (op_box rfl (HF.ev rfl)) ?_
 intro g55 _ w57 H58 O59; clear HF HO
 have O60 : Own w w57 [Bk g55 [.slice Af files.length cf, J d.most, J d.fuse, .bool d.down] 34] := O59
 clear O59
 refine Vc H58 fun _ H62 => ?_
 refine Vc H62 fun _ H64 => ?_
 refine gE hK54 ?_
 refine gw_seq fun K65 hK65 => ?_
 refine gR fun K66 hK66 => ?_
 refine Vf H64 (gwfld34_3 _ _) fun _ H68 => ?_
 refine Vl H68 gwagg4 (O60.get 0 rfl) fun _ H70 => ?_
 refine gE hK66 ?_
 clear H58 H62 H64 H68
 refine gw_cond H70 rfl (fun hb71 => ?_) (fun hb71 => ?_)
 ·
  have H72 := H70.subst_ (d := 8) (b := true) rfl hb71
  clear H70
  (try simp only [Bool.not_eq_true] at hb71)
  have hdn := hb71
  refine gR fun K73 hK73 => ?_
  refine Vc H72 fun _ H75 => ?_
  refine Vc H75 fun _ H77 => ?_
  refine gE hK73 ?_
  refine wp_ret ?_
  clear H72 H75
  refine gw_thr ?_
  refine gw_ret2 H77 rfl rfl rfl ?_
  rw [read_down hdn]
  exact ⟨none, 0, rfl, Kd.F_nil _ _ _, Nat.le_refl _, O60.below⟩
 have H78 := H70.subst_ (d := 8) (b := false) rfl hb71
 clear H70
 (try simp only [Bool.not_eq_true] at hb71)
 have hdn : d.down = false := by simpa using hb71
 refine gS hK65 ?_
 refine gR fun K79 hK79 => ?_
 refine V H78 (op_loadn gwagg34 gwsiz34 rfl (H78.ev rfl) (O60.get 0 rfl) rfl rfl) fun _ H81 => ?_
 refine Vm H81 fun _ H83 => ?_
 clear H78 H81
 refine Wk H83 Tryz.func60 rfl (ar_cons (H83.ev rfl) (ar_cons (H83.ev rfl) ar_nil)) (find_ref Af cf files d.most d.fuse d.down nm _ (Kd.C_below (Kd.F_now hF) O60.below) hcf hlf) ?_
 rintro e84 w85 ⟨rfl, hb86⟩
 refine ⟨_, rfl, fun _ H88 => ?_⟩
 have O89 := O60.after hb86
 clear H83 O60 hb86
 have H91 := H88.conv (v' := J i0) (congrArg (Value.int .i64) hfi)
 clear H88
 refine Va H91 fun _ H93 => ?_
 refine gE hK79 ?_
 refine gw_seq fun K94 hK94 => ?_
 refine gR fun K95 hK95 => ?_
 refine Vm H93 fun _ H97 => ?_
 refine V H97 (op_lss rfl (H97.ev rfl) (ev_c _ _)) fun _ H99 => ?_
 clear H91 H93 H97
 have H100 := H99.lit (b := false) (by rw [decide_eq_false_iff_not]; omega)
 clear H99
 refine gE hK95 ?_
 refine gw_cond H100 rfl (fun hb101 => ?_) (fun hb101 => ?_)
 ·
  cases hb101
 refine gS hK94 ?_
 refine gR fun K102 hK102 => ?_
 refine Vf H100 (gwfld34_0 _ _) fun _ H104 => ?_
 refine Vl H104 gwagg32 (O89.get 0 rfl) fun _ H106 => ?_
 refine Vm H106 fun _ H108 => ?_
 clear H100 H104 H106
 obtain ⟨ad109, cs112, hA110, hl113, hK114, hc111, _⟩ := Kd.F_get hF z38 i0 (by omega) (by omega)
 obtain ⟨A115, c116, rfl, hl117, hC118⟩ := k38_openF hK114
 clear hl113
 refine V H108 (op_index Tryz.underlying32 gwsiz38 rfl (H108.ev rfl) (H108.ev rfl) hA110 (⟨by omega, by omega⟩)) fun _ H120 => ?_
 refine V H120 (op_field (gwflda38_1 _) rfl (H120.ev rfl)) fun _ H122 => ?_
 refine V H122 (op_load1 gwagg22 rfl (H122.ev rfl) ((cells0 O89 hc111 1 _ rfl))) fun _ H124 => ?_
 refine Va H124 fun _ H126 => ?_
 refine Vc H126 fun _ H128 => ?_
 refine gE hK102 ?_
 refine wp_ret ?_
 clear H108 H120 H122 H124 H126
 refine gw_ret2 H128 rfl rfl rfl ?_
 rw [read_some hdn hgd]
 exact ⟨_, _, rfl, hC118, hl117, O89.below⟩
end GRj2_
export GRj2_ (scan_ref read_refF)
namespace GRj3_
theorem sync_ref (P : Nat → Prop) (Af : Option Addr) (cf : Nat) (files : List S38) (Ai : Option Addr) (ni ci : Nat) (d : PD) (nm : ByteArray) (w : World) (hP : ∀ k, P k → k < w.heap.size) (hF : Kd.F k38 w P Af files.length files) (hcf : files.length ≤ cf) (hA : ∀ ad, Af = some ad → P ad.block) (hlf : files.length ≤ 1000000) (hd : files.map ofS = d.fs) (hw : wfD d) (hus : d.used ≤ 100000000) :
    Calls Tryz.prog 18 #[.agg #[.slice Af files.length cf, .int .i64 d.most, .int .i64 d.fuse, .bool d.down, .string nm, .slice Ai ni ci]] w fun e w' => ∃ (files' : List S38) (A' : Option Addr) (c' : Nat), files'.map ofS = (syncD nm d).1.fs ∧ e = .returned (.tuple #[.agg #[.slice A' files'.length c', .int .i64 (syncD nm d).1.most, .int .i64 (syncD nm d).1.fuse, .bool (syncD nm d).1.down, .string nm, .slice Ai ni ci], .int .i64 (syncD nm d).2]) ∧ Led P w w' kFile A' files'.length c' files' ∧ Below w.heap.size w w' := by
 refine gw_start (N := 19) (vs := [.agg #[.slice Af files.length cf, J d.most, J d.fuse, .bool d.down, .string nm, .slice Ai ni ci]]) Tryz.func18 rfl rfl (by simp) fun a HF HO => ?_
 replace HO : Own w w [] := HO
 refine gR fun K1 hK1 => ?_
 refine gw_new HF HO (want_none rfl) rfl (by decide) (op_box rfl (HF.ev rfl)) ?_
 intro g2 _ w4 H5 O6; clear HF HO
 have O7 : Own w w4 [Bk g2 [.slice Af files.length cf, J d.most, J d.fuse, .bool d.down, .string nm, .slice Ai ni ci] 41] := O6
 clear O6
 refine gw_new H5 O7 (want_none rfl) rfl (by decide) (op_alloc gwzer41 rfl) ?_
 intro g8 _ w10 H11 O12; clear H5 O7
 have O13 : Own w w10 [Bk g8 [.slice none 0 0, J 0, J 0, .bool false, .string (⟨#[]⟩ : ByteArray), .slice none 0 0] 41, Bk g2 [.slice Af files.length cf, J d.most, J d.fuse, .bool d.down, .string nm, .slice Ai ni ci] 41] := O12
 clear O12
 refine Vc H11 fun _ H15 => ?_
 refine gE hK1 ?_
 refine gR fun K16 hK16 => ?_
 refine Vf H15 (gwfld41_0 _ _) fun _ H18 => ?_
 refine V H18 (op_loadn gwagg34 gwsiz34 rfl (H18.ev rfl) (O13.get 1 rfl) rfl rfl) fun _ H20 => ?_
 refine Vf H20 (gwfld41_1 _ _) fun _ H22 => ?_
 refine Vl H22 gwagg9 (O13.get 1 rfl) fun _ H24 => ?_
 refine V H24 (op_build (cells := #[J 3, .string nm, .string (⟨#[]⟩ : ByteArray), J 0, .slice none 0 0]) rfl (pt_cons (ev_c _ _) (pt_cons (H24.ev rfl) pt_nil)) (by kernel_rfl)) fun _ H26 => ?_
 clear H11 H15 H18 H20 H22 H24
 have O27 := Own.pview_arg O13 hF hcf hA
 have O28 : Own w w10 [Chunk.pview w P k38 (fun _ => False) Af files.length cf files, Bk g8 [.slice none 0 0, J 0, J 0, .bool false, .string (⟨#[]⟩ : ByteArray), .slice none 0 0] 41, Bk g2 [.slice Af files.length cf, J d.most, J d.fuse, .bool d.down, .string nm, .slice Ai ni ci] 41] := O27
 clear O27
 refine Wk H26 Tryz.func38 rfl (ar_cons (H26.ev rfl) (ar_cons (H26.ev rfl) ar_nil)) ((by have h_ := do_pn Af cf files d 3 nm (⟨#[]⟩ : ByteArray) 0 0 hP O28 rfl (by unfold kdOK; decide) (hlf) hd hw (by omega); rw [show (doesD 3 nm (⟨#[]⟩ : ByteArray) 0 [] d) = (syncD nm d) from rfl] at h_; exact h_)) ?_
 rintro e34 w35 ⟨files29, A30, c31, S32, hd33, rfl, hb36⟩
 refine ⟨_, rfl, fun _ H38 => ?_⟩
 have O39 := O28.calls 0 rfl hb36
 clear H26 O28 hb36
 refine Vm H38 fun _ H42 => ?_
 refine Vx H42 fun _ H44 => ?_
 refine Vx H44 fun _ H46 => ?_
 clear H38 H42 H44
 refine gw_new H46 O39 (want_none rfl) rfl (by decide) (op_alloc gwzer34 rfl) ?_
 intro g47 _ w49 H50 O51; clear H46 O39
 have O52 : Own w w49 [Bk g47 [.slice none 0 0, J 0, J 0, .bool false] 34, Chunk.pview w P k38 S32 A30 files29.length c31 files29, Bk g8 [.slice none 0 0, J 0, J 0, .bool false, .string (⟨#[]⟩ : ByteArray), .slice none 0 0] 41, Bk g2 [.slice Af files.length cf, J d.most, J d.fuse, .bool d.down, .string nm, .slice Ai ni ci] 41] := O51
 clear O51
 refine gw_setn 0 H50 O52 rfl (want_none rfl) rfl (op_storen gwsiz34 rfl (H50.ev rfl) (H50.ev rfl) (O52.get 0 rfl) rfl (by simp) (by simp [Value.oneCell'])) ?_
 intro _ w55 H54 O56; clear H50 O52
 refine Va H54 fun _ H58 => ?_
 refine gE hK16 ?_
 refine gR fun K59 hK59 => ?_
 refine V H58 (op_loadn gwagg34 gwsiz34 rfl (H58.ev rfl) (O56.get 0 rfl) rfl rfl) fun _ H61 => ?_
 refine Vf H61 (gwfld41_0 _ _) fun _ H63 => ?_
 clear H54 H58 H61
 refine gw_setn 3 H63 O56 rfl (want_none rfl) rfl (op_storen gwsiz34 rfl (H63.ev rfl) (H63.ev rfl) (O56.get 3 rfl) rfl (by simp) (by simp [Value.oneCell'])) ?_
 intro _ w66 H65 O67; clear H63 O56
 refine gE hK59 ?_
 refine gR fun K68 hK68 => ?_
 refine V H65 (op_loadn gwagg41 gwsiz41 rfl (H65.ev rfl) (O67.get 3 rfl) rfl rfl) fun _ H70 => ?_
 refine Vm H70 fun _ H72 => ?_
 clear H65 H70
 refine gw_setn 2 H72 O67 rfl (want_none rfl) rfl (op_storen gwsiz41 rfl (H72.ev rfl) (H72.ev rfl) (O67.get 2 rfl) rfl (by simp) (by simp [Value.oneCell'])) ?_
 intro _ w75 H74 O76; clear H72 O67
 refine Va H74 fun _ H78 => ?_
 refine gE hK68 ?_
 refine wp_ret ?_
 clear H74
 refine gw_rets2 H78 rfl (rv_celln H78 rfl gwagg41 gwsiz41 (O76.get 2 rfl) rfl) (rv_tmp H78 rfl) ?_
 exact ⟨_, _, _, hd33, rfl, (led_pview (i := 1) O76 hP rfl), O76.below⟩
theorem put_ref (P : Nat → Prop) (Af : Option Addr) (cf : Nat) (files : List S38) (Ai : Option Addr) (ci : Nat) (its : List S54) (d : PD) (nm : ByteArray) (w : World) (hP : ∀ k, P k → k < w.heap.size) (hF : Kd.F k38 w P Af files.length files) (hcf : files.length ≤ cf) (hA : ∀ ad, Af = some ad → P ad.block) (hFi : Kd.F k54 w P Ai its.length its) (hci : its.length ≤ ci) (hAi : ∀ ad, Ai = some ad → P ad.block) (hlf : files.length ≤ 1000000) (hil : its.length ≤ 1000000) (hd : files.map ofS = d.fs) (hw : wfD d) (hus : d.used ≤ 100000000) (kk : Int) (Ab : Option Addr) (cb : Nat) (b : List Int) (hFb : Kd.F (Kd.int .u8) w P Ab b.length b) (hcb : b.length ≤ cb) (hb : ByteL b) (hl : b.length ≤ 900000) :
    Calls Tryz.prog 16 #[.agg #[.slice Af files.length cf, .int .i64 d.most, .int .i64 d.fuse, .bool d.down, .string nm, .slice Ai its.length ci], .agg #[.int .i64 kk, .slice Ab b.length cb]] w fun e w' => JPost P w w' e nm (putJ nm kk b (its.map toI) 0 d).1 (fun q_ => q_ = (putJ nm kk b (its.map toI) 0 d).2.1) := by
 have hel := encN_len kk
 have hrl : (recI (kk, b)).length = (encN kk).length + b.length + 8 := recI_len _
 refine gw_start (N := 69) (vs := [.agg #[.slice Af files.length cf, J d.most, J d.fuse, .bool d.down, .string nm, .slice Ai its.length ci], .agg #[J kk, .slice Ab b.length cb]]) Tryz.func16 rfl rfl (by simp) fun a HF HO => ?_
 replace HO : Own w w [] := HO
 refine gR fun K1 hK1 => ?_
 refine gw_new HF HO (want_none rfl) rfl (by decide) (op_box rfl (HF.ev rfl)) ?_
 intro g2 _ w4 H5 O6; clear HF HO
 have O7 : Own w w4 [Bk g2 [.slice Af files.length cf, J d.most, J d.fuse, .bool d.down, .string nm, .slice Ai its.length ci] 41] := O6
 clear O6
 refine gw_new H5 O7 (want_none rfl) rfl (by decide) (op_box rfl (H5.ev rfl)) ?_
 intro g8 _ w10 H11 O12; clear H5 O7
 have O13 : Own w w10 [Bk g8 [J kk, .slice Ab b.length cb] 54, Bk g2 [.slice Af files.length cf, J d.most, J d.fuse, .bool d.down, .string nm, .slice Ai its.length ci] 41] := O12
 clear O12
 refine gw_new H11 O13 (want_none rfl) rfl (by decide) (op_alloc gwzer41 rfl) ?_
 intro g14 _ w16 H17 O18; clear H11 O13
 have O19 : Own w w16 [Bk g14 [.slice none 0 0, J 0, J 0, .bool false, .string (⟨#[]⟩ : ByteArray), .slice none 0 0] 41, Bk g8 [J kk, .slice Ab b.length cb] 54, Bk g2 [.slice Af files.length cf, J d.most, J d.fuse, .bool d.down, .string nm, .slice Ai its.length ci] 41] := O18
 clear O18
 refine Vc H17 fun _ H21 => ?_
 refine gE hK1 ?_
 refine gw_seq fun K22 hK22 => ?_
 refine gR fun K23 hK23 => ?_
 refine Vf H21 (gwfld54_0 _ _) fun _ H25 => ?_
 refine Vl H25 gwagg2 (O19.get 1 rfl) fun _ H27 => ?_
 refine V H27 (op_lss rfl (H27.ev rfl) (ev_c _ _)) fun _ H29 => ?_
 refine Vm H29 fun _ H31 => ?_
 clear H17 H21 H25 H27 H29
 refine gw_evG H31 rfl rfl rfl rfl (on_f _) rfl (by decide) (fun h_ => (op_field (gwfld54_0 _ _) rfl (H31.ev rfl))) ?_
 intro _ H33; clear H31
 refine gw_evG H33 rfl rfl rfl rfl (on_f _) rfl (by decide) (fun h_ => (op_load1 gwagg2 rfl (ev_gv (H33.ev rfl) h_) (blk_at (O19.get 1 rfl) rfl))) ?_
 intro _ H35; clear H33
 refine gw_evG H35 rfl rfl rfl rfl (on_f _) rfl (by decide) (fun h_ => (op_gtr rfl (ev_gv (H35.ev rfl) h_) (ev_c _ _))) ?_
 intro _ H37; clear H35
 refine V H37 (op_pick_or rfl (H37.ev rfl) (ev_c _ _) (fun hp_ => (ev_gv (H37.ev rfl) (not_t hp_)))) fun _ H39 => ?_
 refine gE hK23 ?_
 clear H37
 refine gw_cond H39 rfl (fun hb40 => ?_) (fun hb40 => ?_)
 ·
  have H41 := H39.subst_ (d := 17) (b := true) rfl hb40
  clear H39
  (try simp only [Bool.or_eq_true, Bool.or_eq_false_iff, decide_eq_true_eq, decide_eq_false_iff_not, Int.not_lt] at hb40)
  refine gR fun K42 hK42 => ?_
  refine V H41 (op_loadn gwagg41 gwsiz41 rfl (H41.ev rfl) (O19.get 2 rfl) rfl rfl) fun _ H44 => ?_
  clear H41
  refine gw_setn 0 H44 O19 rfl (want_none rfl) rfl (op_storen gwsiz41 rfl (H44.ev rfl) (H44.ev rfl) (O19.get 0 rfl) rfl (by simp) (by simp [Value.oneCell'])) ?_
  intro _ w47 H46 O48; clear H44 O19
  refine Vc H46 fun _ H50 => ?_
  refine gE hK42 ?_
  refine wp_ret ?_
  clear H46
  refine gw_thr ?_
  refine gw_rets2 H50 rfl (rv_celln H50 rfl gwagg41 gwsiz41 (O48.get 0 rfl) rfl) (rv_tmp H50 rfl) ?_
  exact jpost_of (d2 := d) (its := its) O48 (by rw [put_arg (by omega)]) ⟨rfl, rfl, rfl⟩ hd (by rw [put_arg (by omega)]) (led_arg O48 hP hF hcf hA) (led_arg O48 hP hFi hci hAi)
 have H51 := H39.subst_ (d := 17) (b := false) rfl hb40
 clear H39
 (try simp only [Bool.or_eq_true, Bool.or_eq_false_iff, decide_eq_true_eq, decide_eq_false_iff_not, Int.not_lt] at hb40)
 refine gS hK22 ?_
 refine gw_seq fun K52 hK52 => ?_
 refine gR fun K53 hK53 => ?_
 refine Vf H51 (gwfld54_1 _ _) fun _ H55 => ?_
 refine Vl H55 gwagg22 (O19.get 1 rfl) fun _ H57 => ?_
 refine V H57 (op_len Tryz.underlying22 rfl (H57.ev rfl)) fun _ H59 => ?_
 refine V H59 (op_gtr rfl (H59.ev rfl) (ev_c _ _)) fun _ H61 => ?_
 refine gE hK53 ?_
 clear H51 H55 H57 H59
 refine gw_cond H61 rfl (fun hb62 => ?_) (fun hb62 => ?_)
 ·
  have H63 := H61.subst_ (d := 22) (b := true) rfl hb62
  clear H61
  (try simp only [decide_eq_true_eq] at hb62)
  refine gR fun K64 hK64 => ?_
  refine V H63 (op_loadn gwagg41 gwsiz41 rfl (H63.ev rfl) (O19.get 2 rfl) rfl rfl) fun _ H66 => ?_
  clear H63
  refine gw_setn 0 H66 O19 rfl (want_none rfl) rfl (op_storen gwsiz41 rfl (H66.ev rfl) (H66.ev rfl) (O19.get 0 rfl) rfl (by simp) (by simp [Value.oneCell'])) ?_
  intro _ w69 H68 O70; clear H66 O19
  refine Vc H68 fun _ H72 => ?_
  refine gE hK64 ?_
  refine wp_ret ?_
  clear H68
  refine gw_thr ?_
  refine gw_rets2 H72 rfl (rv_celln H72 rfl gwagg41 gwsiz41 (O70.get 0 rfl) rfl) (rv_tmp H72 rfl) ?_
  exact jpost_of (d2 := d) (its := its) O70 (by rw [put_long (by omega) (by omega)]) ⟨rfl, rfl, rfl⟩ hd (by rw [put_long (by omega) (by omega)]) (led_arg O70 hP hF hcf hA) (led_arg O70 hP hFi hci hAi)
 have H73 := H61.subst_ (d := 22) (b := false) rfl hb62
 clear H61
 (try simp only [decide_eq_false_iff_not, Int.not_lt] at hb62)
 refine gS hK52 ?_
 refine gw_seq fun K74 hK74 => ?_
 refine gR fun K75 hK75 => ?_
 refine Vf H73 (gwfld41_2 _ _) fun _ H77 => ?_
 refine Vl H77 gwagg39 (O19.get 2 rfl) fun _ H79 => ?_
 refine Vf H79 (gwfld54_0 _ _) fun _ H81 => ?_
 refine Vl H81 gwagg2 (O19.get 1 rfl) fun _ H83 => ?_
 clear H73 H77 H79 H81
 refine Wk H83 Tryz.func22 rfl (ar_cons (H83.ev rfl) (ar_cons (H83.ev rfl) ar_nil)) (has_ref Ai ci its kk _ (Kd.C_below (Kd.F_now hFi) O19.below) hci hil) ?_
 rintro e84 w85 ⟨rfl, hb86⟩
 refine ⟨_, rfl, fun _ H88 => ?_⟩
 have O89 := O19.after hb86
 clear H83 O19 hb86
 refine gE hK75 ?_
 refine gw_cond H88 rfl (fun hb91 => ?_) (fun hb91 => ?_)
 ·
  have H92 := H88.subst_ (d := 28) (b := true) rfl hb91
  clear H88
  (try simp only [Bool.not_eq_true] at hb91)
  have hhas := hb91
  refine gR fun K93 hK93 => ?_
  refine V H92 (op_loadn gwagg41 gwsiz41 rfl (H92.ev rfl) (O89.get 2 rfl) rfl rfl) fun _ H95 => ?_
  clear H92
  refine gw_setn 0 H95 O89 rfl (want_none rfl) rfl (op_storen gwsiz41 rfl (H95.ev rfl) (H95.ev rfl) (O89.get 0 rfl) rfl (by simp) (by simp [Value.oneCell'])) ?_
  intro _ w98 H97 O99; clear H95 O89
  refine Vc H97 fun _ H101 => ?_
  refine gE hK93 ?_
  refine wp_ret ?_
  clear H97
  refine gw_thr ?_
  refine gw_rets2 H101 rfl (rv_celln H101 rfl gwagg41 gwsiz41 (O99.get 0 rfl) rfl) (rv_tmp H101 rfl) ?_
  exact jpost_of (d2 := d) (its := its) O99 (by rw [put_twice (by omega) (by omega) hhas]) ⟨rfl, rfl, rfl⟩ hd (by rw [put_twice (by omega) (by omega) hhas]) (led_arg O99 hP hF hcf hA) (led_arg O99 hP hFi hci hAi)
 have H102 := H88.subst_ (d := 28) (b := false) rfl hb91
 clear H88
 (try simp only [Bool.not_eq_true] at hb91)
 have hhas := hb91
 refine gS hK74 ?_
 refine gw_joinS (fun a_ w_ => ∃ (fl : List S38) (Al : Option Addr) (cl : Nat) (Sl : Nat → Prop) (g6 : Nat), Fr 69 a_ [(6, .pointer (some ⟨g6, 0, none⟩)), (7, J ((appendD nm (recI (kk, b)) d).2)), (2, .pointer (some ⟨g2, 0, none⟩)), (3, .pointer (some ⟨g8, 0, none⟩)), (4, .pointer (some ⟨g14, 0, none⟩)), (5, J 0)] ∧ Own w w_ [Bk g14 [.slice none 0 0, J 0, J 0, .bool false, .string (⟨#[]⟩ : ByteArray), .slice none 0 0] 41, Bk g8 [J kk, .slice Ab b.length cb] 54, Bk g2 [.slice Af files.length cf, J d.most, J d.fuse, .bool d.down, .string nm, .slice Ai its.length ci] 41, Chunk.pview w P k38 Sl Al fl.length cl fl, Bk g6 [.slice Al fl.length cl, J ((appendD nm (recI (kk, b)) d).1.most), J ((appendD nm (recI (kk, b)) d).1.fuse), .bool ((appendD nm (recI (kk, b)) d).1.down)] 34] ∧ (fl.map ofS = (appendD nm (recI (kk, b)) d).1.fs)) ?_ ?_
 ·
  refine gx_draw (M := [Bk g14 [.slice none 0 0, J 0, J 0, .bool false, .string (⟨#[]⟩ : ByteArray), .slice none 0 0] 41, Bk g8 [J kk, .slice Ab b.length cb] 54, Bk g2 [.slice Af files.length cf, J d.most, J d.fuse, .bool d.down, .string nm, .slice Ai its.length ci] 41]) (fun j_ => j_ == 12) O89 (by kernel_rfl) fun w103 O104 => ?_
  clear O89
  refine gx_take 0 rfl (by kernel_rfl) H102 (by exact O104.sel [0, 1, 2] (by decide)) (want_none rfl) rfl (by decide) (fun wq HO => (op_field (gwfld41_0 _ _) rfl (H102.ev rfl))) ?_
  intro _ H106; clear H102
  refine gx_take 1 rfl (by kernel_rfl) H106 (by exact O104.sel [0, 1, 2] (by decide)) (want_none rfl) rfl (by decide) (fun wq HO => (op_loadn gwagg34 gwsiz34 rfl (H106.ev rfl) (HO.get 2 rfl) rfl rfl)) ?_
  intro _ H108; clear H106
  refine gx_take 2 rfl (by kernel_rfl) H108 (by exact O104.sel [0, 1, 2] (by decide)) (want_none rfl) rfl (by decide) (fun wq HO => (op_field (gwfld41_1 _ _) rfl (H108.ev rfl))) ?_
  intro _ H110; clear H108
  refine gx_take 3 rfl (by kernel_rfl) H110 (by exact O104.sel [0, 1, 2] (by decide)) (want_none rfl) rfl (by decide) (fun wq HO => (op_load1 gwagg9 rfl (H110.ev rfl) (blk_at (HO.get 2 rfl) rfl))) ?_
  intro _ H112; clear H110
  refine gx_take 4 rfl (by kernel_rfl) H112 (by exact O104.sel [0, 1, 2] (by decide)) (want_none rfl) rfl (by decide) (fun wq HO => (op_loadn gwagg54 gwsiz54 rfl (H112.ev rfl) (HO.get 1 rfl) rfl rfl)) ?_
  intro _ H114; clear H112
  refine gx_step2 5 11 rfl rfl (by kernel_rfl) ?_ ?_
  ·
   refine Wk H114 Tryz.func48 rfl (ar_cons (H114.ev rfl) ar_nil) (rec_ref kk Ab cb b _ (Kd.C_below (Kd.F_now hFb) O104.below) hcb (hb) (hl)) ?_
   rintro e118 w119 ⟨A115, c116, S117, rfl, hb120⟩
   refine ⟨_, rfl, fun _ H122 => ?_⟩
   have O123 := O104.fresh hb120
   have hbel124 := O104.below
   clear H114 O104 hb120
   have O125 := O123.lowrow 0 rfl (base' := w.heap.size) (Below.size hbel124)
   refine gx_on (i := 5) (B := (fun j_ => j_ == 12)) (fun _ => (by exact O125.sel [1, 2, 3] (by decide))) ?_
   refine gx_take 6 rfl (by kernel_rfl) H122 (by exact O125.sel [1, 2, 3] (by decide)) (want_none rfl) rfl (by decide) (fun wq HO => (op_build (cells := #[J 2, .string nm, .string (⟨#[]⟩ : ByteArray), J 0, .slice A115 ((recI (kk, b)).length) c116]) rfl (pt_cons (ev_c _ _) (pt_cons (H122.ev rfl) (pt_cons (H122.ev rfl) pt_nil))) (by kernel_rfl))) ?_
   intro _ H127; clear H122
   refine gx_step2 7 11 rfl rfl (by kernel_rfl) ?_ ?_
   ·
    have O128 := Own.pview_arg O125 hF hcf hA
    have O129 : Own w w119 [Chunk.pview w P k38 (fun _ => False) Af files.length cf files, Chunk.row (Kd.int .u8) 5 w.heap.size S117 (.slice A115 ((recI (kk, b)).length) c116) (recI (kk, b)), Bk g14 [.slice none 0 0, J 0, J 0, .bool false, .string (⟨#[]⟩ : ByteArray), .slice none 0 0] 41, Bk g8 [J kk, .slice Ab b.length cb] 54, Bk g2 [.slice Af files.length cf, J d.most, J d.fuse, .bool d.down, .string nm, .slice Ai its.length ci] 41] := O128
    clear O128
    refine Wk H127 Tryz.func38 rfl (ar_cons (H127.ev rfl) (ar_cons (H127.ev rfl) ar_nil)) ((by have h_ := do_p Af cf files d 2 nm (⟨#[]⟩ : ByteArray) 0 A115 c116 (recI (kk, b)) 0 hP O129 rfl (by unfold kdOK; decide) (hlf) hd hw (Kd.R_reads' (O129.get 1 rfl)).2.2 (row_cap (O129.get 1 rfl)) (by omega); rw [show (doesD 2 nm (⟨#[]⟩ : ByteArray) 0 (recI (kk, b)) d) = (appendD nm (recI (kk, b)) d) from rfl] at h_; exact h_)) ?_
    rintro e135 w136 ⟨files130, A131, c132, S133, hd134, rfl, hb137⟩
    refine ⟨_, rfl, fun _ H139 => ?_⟩
    have O140 := O129.calls 0 rfl hb137
    clear H127 O129 hb137
    refine gx_on (i := 7) (B := (fun j_ => j_ == 12)) (fun _ => (by exact O140.sel [2, 3, 4] (by decide))) ?_
    refine gx_take 8 rfl (by kernel_rfl) H139 (by exact O140.sel [2, 3, 4] (by decide)) (want_none rfl) rfl (by decide) (fun wq HO => (op_move rfl (H139.ev rfl))) ?_
    intro _ H143; clear H139
    refine gx_take 9 rfl (by kernel_rfl) H143 (by exact O140.sel [2, 3, 4] (by decide)) (want_none rfl) rfl (by decide) (fun wq HO => (op_extract rfl (H143.ev rfl) rfl)) ?_
    intro _ H145; clear H143
    refine gx_step2 10 11 rfl rfl (by kernel_rfl) ?_ ?_
    ·
     refine Vx H145 fun _ H147 => ?_
     clear H145
     refine gx_on (i := 10) (B := (fun j_ => j_ == 12)) (fun _ => (by exact O140.sel [2, 3, 4] (by decide))) ?_
     refine gx_step 11 rfl (by kernel_rfl) ?_
     refine gw_new H147 O140 (want_none rfl) rfl (by decide) (op_alloc gwzer34 rfl) ?_
     intro g148 _ w150 H151 O152; clear H147 O140
     have O153 : Own w w150 [Bk g148 [.slice none 0 0, J 0, J 0, .bool false] 34, Chunk.pview w P k38 S133 A131 files130.length c132 files130, Chunk.row (Kd.int .u8) 5 w.heap.size S117 (.slice A115 ((recI (kk, b)).length) c116) (recI (kk, b)), Bk g14 [.slice none 0 0, J 0, J 0, .bool false, .string (⟨#[]⟩ : ByteArray), .slice none 0 0] 41, Bk g8 [J kk, .slice Ab b.length cb] 54, Bk g2 [.slice Af files.length cf, J d.most, J d.fuse, .bool d.down, .string nm, .slice Ai its.length ci] 41] := O152
     clear O152
     refine gx_on (i := 11) (B := (fun j_ => j_ == 12)) (fun _ => (by exact O153.sel [3, 4, 5] (by decide))) ?_
     refine gx_step 12 rfl (by kernel_rfl) ?_
     refine gw_setn 0 H151 O153 rfl (want_none rfl) rfl (op_storen gwsiz34 rfl (H151.ev rfl) (H151.ev rfl) (O153.get 0 rfl) rfl (by simp) (by simp [Value.oneCell'])) ?_
     intro _ w156 H155 O157; clear H151 O153
     refine gx_on (i := 12) (B := (fun j_ => j_ == 12)) (fun h_ => by cases h_) ?_
     refine gx_step 13 rfl (by kernel_rfl) ?_
     refine Va H155 fun _ H159 => ?_
     clear H155
     refine gx_on (i := 13) (B := (fun j_ => j_ == 12)) (fun _ => (by exact O157.sel [3, 4, 5] (by decide))) ?_
     refine gx_done (by kernel_rfl) ?_
     refine gw_nx ⟨files130, A131, c132, S133, g148, (H159.pick (t := 6) rfl (H159.pick (t := 7) rfl (H159.pick (t := 2) rfl (H159.pick (t := 3) rfl (H159.pick (t := 4) rfl (H159.pick (t := 5) rfl H159.nil)))))), O157.sel [3, 4, 5, 1, 0] (by decide), ?_⟩
     exact hd134
    refine gw_new H145 O140 (want_none rfl) rfl (by decide) (op_alloc gwzer34 rfl) ?_
    intro g160 _ w162 H163 O164; clear H145 O140
    have O165 : Own w w162 [Bk g160 [.slice none 0 0, J 0, J 0, .bool false] 34, Chunk.pview w P k38 S133 A131 files130.length c132 files130, Chunk.row (Kd.int .u8) 5 w.heap.size S117 (.slice A115 ((recI (kk, b)).length) c116) (recI (kk, b)), Bk g14 [.slice none 0 0, J 0, J 0, .bool false, .string (⟨#[]⟩ : ByteArray), .slice none 0 0] 41, Bk g8 [J kk, .slice Ab b.length cb] 54, Bk g2 [.slice Af files.length cf, J d.most, J d.fuse, .bool d.down, .string nm, .slice Ai its.length ci] 41] := O164
    clear O164
    refine gx_on (i := 11) (B := (fun j_ => j_ == 12)) (fun _ => (by exact O165.sel [3, 4, 5] (by decide))) ?_
    refine gx_step2 10 12 rfl rfl (by kernel_rfl) ?_ ?_
    ·
     refine Vx H163 fun _ H167 => ?_
     clear H163
     refine gx_on (i := 10) (B := (fun j_ => j_ == 12)) (fun _ => (by exact O165.sel [3, 4, 5] (by decide))) ?_
     refine gx_step 12 rfl (by kernel_rfl) ?_
     refine gw_setn 0 H167 O165 rfl (want_none rfl) rfl (op_storen gwsiz34 rfl (H167.ev rfl) (H167.ev rfl) (O165.get 0 rfl) rfl (by simp) (by simp [Value.oneCell'])) ?_
     intro _ w170 H169 O171; clear H167 O165
     refine gx_on (i := 12) (B := (fun j_ => j_ == 12)) (fun h_ => by cases h_) ?_
     refine gx_step 13 rfl (by kernel_rfl) ?_
     refine Va H169 fun _ H173 => ?_
     clear H169
     refine gx_on (i := 13) (B := (fun j_ => j_ == 12)) (fun _ => (by exact O171.sel [3, 4, 5] (by decide))) ?_
     refine gx_done (by kernel_rfl) ?_
     refine gw_nx ⟨files130, A131, c132, S133, g160, (H173.pick (t := 6) rfl (H173.pick (t := 7) rfl (H173.pick (t := 2) rfl (H173.pick (t := 3) rfl (H173.pick (t := 4) rfl (H173.pick (t := 5) rfl H173.nil)))))), O171.sel [3, 4, 5, 1, 0] (by decide), ?_⟩
     exact hd134
    refine gw_setn 0 H163 O165 rfl (want_none rfl) rfl (op_storen gwsiz34 rfl (H163.ev rfl) (H163.ev rfl) (O165.get 0 rfl) rfl (by simp) (by simp [Value.oneCell'])) ?_
    intro _ w176 H175 O177; clear H163 O165
    refine gx_on (i := 12) (B := (fun j_ => j_ == 12)) (fun h_ => by cases h_) ?_
    refine gx_step 10 rfl (by kernel_rfl) ?_
    refine Vx H175 fun _ H179 => ?_
    clear H175
    refine gx_on (i := 10) (B := (fun j_ => j_ == 12)) (fun _ => (by exact O177.sel [3, 4, 5] (by decide))) ?_
    refine gx_step 13 rfl (by kernel_rfl) ?_
    refine Va H179 fun _ H181 => ?_
    clear H179
    refine gx_on (i := 13) (B := (fun j_ => j_ == 12)) (fun _ => (by exact O177.sel [3, 4, 5] (by decide))) ?_
    refine gx_done (by kernel_rfl) ?_
    refine gw_nx ⟨files130, A131, c132, S133, g160, (H181.pick (t := 6) rfl (H181.pick (t := 7) rfl (H181.pick (t := 2) rfl (H181.pick (t := 3) rfl (H181.pick (t := 4) rfl (H181.pick (t := 5) rfl H181.nil)))))), O177.sel [3, 4, 5, 1, 0] (by decide), ?_⟩
    exact hd134
   refine gw_new H127 O125 (want_none rfl) rfl (by decide) (op_alloc gwzer34 rfl) ?_
   intro g182 _ w184 H185 O186; clear H127 O125
   have O187 : Own w w184 [Bk g182 [.slice none 0 0, J 0, J 0, .bool false] 34, Chunk.row (Kd.int .u8) 5 w.heap.size S117 (.slice A115 ((recI (kk, b)).length) c116) (recI (kk, b)), Bk g14 [.slice none 0 0, J 0, J 0, .bool false, .string (⟨#[]⟩ : ByteArray), .slice none 0 0] 41, Bk g8 [J kk, .slice Ab b.length cb] 54, Bk g2 [.slice Af files.length cf, J d.most, J d.fuse, .bool d.down, .string nm, .slice Ai its.length ci] 41] := O186
   clear O186
   refine gx_on (i := 11) (B := (fun j_ => j_ == 12)) (fun _ => (by exact O187.sel [2, 3, 4] (by decide))) ?_
   refine gx_step 7 rfl (by kernel_rfl) ?_
   have O188 := Own.pview_arg O187 hF hcf hA
   have O189 : Own w w184 [Chunk.pview w P k38 (fun _ => False) Af files.length cf files, Bk g182 [.slice none 0 0, J 0, J 0, .bool false] 34, Chunk.row (Kd.int .u8) 5 w.heap.size S117 (.slice A115 ((recI (kk, b)).length) c116) (recI (kk, b)), Bk g14 [.slice none 0 0, J 0, J 0, .bool false, .string (⟨#[]⟩ : ByteArray), .slice none 0 0] 41, Bk g8 [J kk, .slice Ab b.length cb] 54, Bk g2 [.slice Af files.length cf, J d.most, J d.fuse, .bool d.down, .string nm, .slice Ai its.length ci] 41] := O188
   clear O188
   refine Wk H185 Tryz.func38 rfl (ar_cons (H185.ev rfl) (ar_cons (H185.ev rfl) ar_nil)) ((by have h_ := do_p Af cf files d 2 nm (⟨#[]⟩ : ByteArray) 0 A115 c116 (recI (kk, b)) 0 hP O189 rfl (by unfold kdOK; decide) (hlf) hd hw (Kd.R_reads' (O189.get 2 rfl)).2.2 (row_cap (O189.get 2 rfl)) (by omega); rw [show (doesD 2 nm (⟨#[]⟩ : ByteArray) 0 (recI (kk, b)) d) = (appendD nm (recI (kk, b)) d) from rfl] at h_; exact h_)) ?_
   rintro e195 w196 ⟨files190, A191, c192, S193, hd194, rfl, hb197⟩
   refine ⟨_, rfl, fun _ H199 => ?_⟩
   have O200 := O189.calls 0 rfl hb197
   clear H185 O189 hb197
   refine gx_on (i := 7) (B := (fun j_ => j_ == 12)) (fun _ => (by exact O200.sel [3, 4, 5] (by decide))) ?_
   refine gx_take 8 rfl (by kernel_rfl) H199 (by exact O200.sel [3, 4, 5] (by decide)) (want_none rfl) rfl (by decide) (fun wq HO => (op_move rfl (H199.ev rfl))) ?_
   intro _ H203; clear H199
   refine gx_take 9 rfl (by kernel_rfl) H203 (by exact O200.sel [3, 4, 5] (by decide)) (want_none rfl) rfl (by decide) (fun wq HO => (op_extract rfl (H203.ev rfl) rfl)) ?_
   intro _ H205; clear H203
   refine gx_step2 10 12 rfl rfl (by kernel_rfl) ?_ ?_
   ·
    refine Vx H205 fun _ H207 => ?_
    clear H205
    refine gx_on (i := 10) (B := (fun j_ => j_ == 12)) (fun _ => (by exact O200.sel [3, 4, 5] (by decide))) ?_
    refine gx_step 12 rfl (by kernel_rfl) ?_
    refine gw_setn 1 H207 O200 rfl (want_none rfl) rfl (op_storen gwsiz34 rfl (H207.ev rfl) (H207.ev rfl) (O200.get 1 rfl) rfl (by simp) (by simp [Value.oneCell'])) ?_
    intro _ w210 H209 O211; clear H207 O200
    refine gx_on (i := 12) (B := (fun j_ => j_ == 12)) (fun h_ => by cases h_) ?_
    refine gx_step 13 rfl (by kernel_rfl) ?_
    refine Va H209 fun _ H213 => ?_
    clear H209
    refine gx_on (i := 13) (B := (fun j_ => j_ == 12)) (fun _ => (by exact O211.sel [3, 4, 5] (by decide))) ?_
    refine gx_done (by kernel_rfl) ?_
    refine gw_nx ⟨files190, A191, c192, S193, g182, (H213.pick (t := 6) rfl (H213.pick (t := 7) rfl (H213.pick (t := 2) rfl (H213.pick (t := 3) rfl (H213.pick (t := 4) rfl (H213.pick (t := 5) rfl H213.nil)))))), O211.sel [3, 4, 5, 0, 1] (by decide), ?_⟩
    exact hd194
   refine gw_setn 1 H205 O200 rfl (want_none rfl) rfl (op_storen gwsiz34 rfl (H205.ev rfl) (H205.ev rfl) (O200.get 1 rfl) rfl (by simp) (by simp [Value.oneCell'])) ?_
   intro _ w216 H215 O217; clear H205 O200
   refine gx_on (i := 12) (B := (fun j_ => j_ == 12)) (fun h_ => by cases h_) ?_
   refine gx_step 10 rfl (by kernel_rfl) ?_
   refine Vx H215 fun _ H219 => ?_
   clear H215
   refine gx_on (i := 10) (B := (fun j_ => j_ == 12)) (fun _ => (by exact O217.sel [3, 4, 5] (by decide))) ?_
   refine gx_step 13 rfl (by kernel_rfl) ?_
   refine Va H219 fun _ H221 => ?_
   clear H219
   refine gx_on (i := 13) (B := (fun j_ => j_ == 12)) (fun _ => (by exact O217.sel [3, 4, 5] (by decide))) ?_
   refine gx_done (by kernel_rfl) ?_
   refine gw_nx ⟨files190, A191, c192, S193, g182, (H221.pick (t := 6) rfl (H221.pick (t := 7) rfl (H221.pick (t := 2) rfl (H221.pick (t := 3) rfl (H221.pick (t := 4) rfl (H221.pick (t := 5) rfl H221.nil)))))), O217.sel [3, 4, 5, 0, 1] (by decide), ?_⟩
   exact hd194
  refine gw_new H114 O104 (want_none rfl) rfl (by decide) (op_alloc gwzer34 rfl) ?_
  intro g222 _ w224 H225 O226; clear H114 O104
  have O227 : Own w w224 [Bk g222 [.slice none 0 0, J 0, J 0, .bool false] 34, Bk g14 [.slice none 0 0, J 0, J 0, .bool false, .string (⟨#[]⟩ : ByteArray), .slice none 0 0] 41, Bk g8 [J kk, .slice Ab b.length cb] 54, Bk g2 [.slice Af files.length cf, J d.most, J d.fuse, .bool d.down, .string nm, .slice Ai its.length ci] 41] := O226
  clear O226
  refine gx_on (i := 11) (B := (fun j_ => j_ == 12)) (fun _ => (by exact O227.sel [1, 2, 3] (by decide))) ?_
  refine gx_step 5 rfl (by kernel_rfl) ?_
  refine Wk H225 Tryz.func48 rfl (ar_cons (H225.ev rfl) ar_nil) (rec_ref kk Ab cb b _ (Kd.C_below (Kd.F_now hFb) O227.below) hcb (hb) (hl)) ?_
  rintro e231 w232 ⟨A228, c229, S230, rfl, hb233⟩
  refine ⟨_, rfl, fun _ H235 => ?_⟩
  have O236 := O227.fresh hb233
  have hbel237 := O227.below
  clear H225 O227 hb233
  have O238 := O236.lowrow 0 rfl (base' := w.heap.size) (Below.size hbel237)
  refine gx_on (i := 5) (B := (fun j_ => j_ == 12)) (fun _ => (by exact O238.sel [2, 3, 4] (by decide))) ?_
  refine gx_take 6 rfl (by kernel_rfl) H235 (by exact O238.sel [2, 3, 4] (by decide)) (want_none rfl) rfl (by decide) (fun wq HO => (op_build (cells := #[J 2, .string nm, .string (⟨#[]⟩ : ByteArray), J 0, .slice A228 ((recI (kk, b)).length) c229]) rfl (pt_cons (ev_c _ _) (pt_cons (H235.ev rfl) (pt_cons (H235.ev rfl) pt_nil))) (by kernel_rfl))) ?_
  intro _ H240; clear H235
  refine gx_step 7 rfl (by kernel_rfl) ?_
  have O241 := Own.pview_arg O238 hF hcf hA
  have O242 : Own w w232 [Chunk.pview w P k38 (fun _ => False) Af files.length cf files, Chunk.row (Kd.int .u8) 5 w.heap.size S230 (.slice A228 ((recI (kk, b)).length) c229) (recI (kk, b)), Bk g222 [.slice none 0 0, J 0, J 0, .bool false] 34, Bk g14 [.slice none 0 0, J 0, J 0, .bool false, .string (⟨#[]⟩ : ByteArray), .slice none 0 0] 41, Bk g8 [J kk, .slice Ab b.length cb] 54, Bk g2 [.slice Af files.length cf, J d.most, J d.fuse, .bool d.down, .string nm, .slice Ai its.length ci] 41] := O241
  clear O241
  refine Wk H240 Tryz.func38 rfl (ar_cons (H240.ev rfl) (ar_cons (H240.ev rfl) ar_nil)) ((by have h_ := do_p Af cf files d 2 nm (⟨#[]⟩ : ByteArray) 0 A228 c229 (recI (kk, b)) 0 hP O242 rfl (by unfold kdOK; decide) (hlf) hd hw (Kd.R_reads' (O242.get 1 rfl)).2.2 (row_cap (O242.get 1 rfl)) (by omega); rw [show (doesD 2 nm (⟨#[]⟩ : ByteArray) 0 (recI (kk, b)) d) = (appendD nm (recI (kk, b)) d) from rfl] at h_; exact h_)) ?_
  rintro e248 w249 ⟨files243, A244, c245, S246, hd247, rfl, hb250⟩
  refine ⟨_, rfl, fun _ H252 => ?_⟩
  have O253 := O242.calls 0 rfl hb250
  clear H240 O242 hb250
  refine gx_on (i := 7) (B := (fun j_ => j_ == 12)) (fun _ => (by exact O253.sel [3, 4, 5] (by decide))) ?_
  refine gx_take 8 rfl (by kernel_rfl) H252 (by exact O253.sel [3, 4, 5] (by decide)) (want_none rfl) rfl (by decide) (fun wq HO => (op_move rfl (H252.ev rfl))) ?_
  intro _ H256; clear H252
  refine gx_take 9 rfl (by kernel_rfl) H256 (by exact O253.sel [3, 4, 5] (by decide)) (want_none rfl) rfl (by decide) (fun wq HO => (op_extract rfl (H256.ev rfl) rfl)) ?_
  intro _ H258; clear H256
  refine gx_step2 10 12 rfl rfl (by kernel_rfl) ?_ ?_
  ·
   refine Vx H258 fun _ H260 => ?_
   clear H258
   refine gx_on (i := 10) (B := (fun j_ => j_ == 12)) (fun _ => (by exact O253.sel [3, 4, 5] (by decide))) ?_
   refine gx_step 12 rfl (by kernel_rfl) ?_
   refine gw_setn 2 H260 O253 rfl (want_none rfl) rfl (op_storen gwsiz34 rfl (H260.ev rfl) (H260.ev rfl) (O253.get 2 rfl) rfl (by simp) (by simp [Value.oneCell'])) ?_
   intro _ w263 H262 O264; clear H260 O253
   refine gx_on (i := 12) (B := (fun j_ => j_ == 12)) (fun h_ => by cases h_) ?_
   refine gx_step 13 rfl (by kernel_rfl) ?_
   refine Va H262 fun _ H266 => ?_
   clear H262
   refine gx_on (i := 13) (B := (fun j_ => j_ == 12)) (fun _ => (by exact O264.sel [3, 4, 5] (by decide))) ?_
   refine gx_done (by kernel_rfl) ?_
   refine gw_nx ⟨files243, A244, c245, S246, g222, (H266.pick (t := 6) rfl (H266.pick (t := 7) rfl (H266.pick (t := 2) rfl (H266.pick (t := 3) rfl (H266.pick (t := 4) rfl (H266.pick (t := 5) rfl H266.nil)))))), O264.sel [3, 4, 5, 0, 2] (by decide), ?_⟩
   exact hd247
  refine gw_setn 2 H258 O253 rfl (want_none rfl) rfl (op_storen gwsiz34 rfl (H258.ev rfl) (H258.ev rfl) (O253.get 2 rfl) rfl (by simp) (by simp [Value.oneCell'])) ?_
  intro _ w269 H268 O270; clear H258 O253
  refine gx_on (i := 12) (B := (fun j_ => j_ == 12)) (fun h_ => by cases h_) ?_
  refine gx_step 10 rfl (by kernel_rfl) ?_
  refine Vx H268 fun _ H272 => ?_
  clear H268
  refine gx_on (i := 10) (B := (fun j_ => j_ == 12)) (fun _ => (by exact O270.sel [3, 4, 5] (by decide))) ?_
  refine gx_step 13 rfl (by kernel_rfl) ?_
  refine Va H272 fun _ H274 => ?_
  clear H272
  refine gx_on (i := 13) (B := (fun j_ => j_ == 12)) (fun _ => (by exact O270.sel [3, 4, 5] (by decide))) ?_
  refine gx_done (by kernel_rfl) ?_
  refine gw_nx ⟨files243, A244, c245, S246, g222, (H274.pick (t := 6) rfl (H274.pick (t := 7) rfl (H274.pick (t := 2) rfl (H274.pick (t := 3) rfl (H274.pick (t := 4) rfl (H274.pick (t := 5) rfl H274.nil)))))), O270.sel [3, 4, 5, 0, 2] (by decide), ?_⟩
  exact hd247
 rintro _ w276 ⟨fl, Al, cl, Sl, g6, H277, O278, hdl⟩
 refine gR fun K279 hK279 => ?_
 refine V H277 (op_loadn gwagg34 gwsiz34 rfl (H277.ev rfl) (O278.get 4 rfl) rfl rfl) fun _ H281 => ?_
 refine Vf H281 (gwfld41_0 _ _) fun _ H283 => ?_
 clear H277 H281
 refine gw_setn 2 H283 O278 rfl (want_none rfl) rfl (op_storen gwsiz34 rfl (H283.ev rfl) (H283.ev rfl) (O278.get 2 rfl) rfl (by simp) (by simp [Value.oneCell'])) ?_
 intro _ w286 H285 O287; clear H283 O278
 refine gE hK279 ?_
 refine gw_seq fun K288 hK288 => ?_
 refine gR fun K289 hK289 => ?_
 refine Vm H285 fun _ H291 => ?_
 refine V H291 (op_nei rfl (H291.ev rfl) (ev_c _ _)) fun _ H293 => ?_
 refine gE hK289 ?_
 clear H285 H291
 refine gw_cond H293 rfl (fun hb294 => ?_) (fun hb294 => ?_)
 ·
  have H295 := H293.subst_ (d := 44) (b := true) rfl hb294
  clear H293
  (try simp only [decide_eq_true_eq, ne_eq] at hb294)
  have hne := hb294
  refine gR fun K296 hK296 => ?_
  refine V H295 (op_loadn gwagg41 gwsiz41 rfl (H295.ev rfl) (O287.get 2 rfl) rfl rfl) fun _ H298 => ?_
  refine Vm H298 fun _ H300 => ?_
  clear H295 H298
  refine gw_setn 0 H300 O287 rfl (want_none rfl) rfl (op_storen gwsiz41 rfl (H300.ev rfl) (H300.ev rfl) (O287.get 0 rfl) rfl (by simp) (by simp [Value.oneCell'])) ?_
  intro _ w303 H302 O304; clear H300 O287
  refine Va H302 fun _ H306 => ?_
  refine gE hK296 ?_
  refine wp_ret ?_
  clear H302
  refine gw_thr ?_
  refine gw_rets2 H306 rfl (rv_celln H306 rfl gwagg41 gwsiz41 (O304.get 0 rfl) rfl) (rv_tmp H306 rfl) ?_
  exact jpost_of (d2 := (appendD nm (recI (kk, b)) d).1) (its := its) O304 (by rw [put_fail (by omega) (by omega) hhas hne]) ⟨rfl, rfl, rfl⟩ hdl (by rw [put_fail (by omega) (by omega) hhas hne]) (led_pview (i := 3) O304 hP rfl) (led_arg O304 hP hFi hci hAi)
 have H307 := H293.subst_ (d := 44) (b := false) rfl hb294
 clear H293
 (try simp only [decide_eq_false_iff_not, ne_eq, Decidable.not_not] at hb294)
 have happ := hb294
 refine gS hK288 ?_
 refine gR fun K308 hK308 => ?_
 refine gw_plit0 k54 P (e := 54) H307 O287 (want_none rfl) rfl (by decide) (op_bslice (by kernel_rfl) rfl pt_nil) hP ?_
 intro A309 S310 _ w312 H313 O314; clear H307 O287
 have O315 : Own w w312 [Chunk.prow w P k54 54 w.heap.size S310 (.slice A309 (([] : List S54).length) 0) ([] : List S54), Bk g14 [.slice none 0 0, J 0, J 0, .bool false, .string (⟨#[]⟩ : ByteArray), .slice none 0 0] 41, Bk g8 [J kk, .slice Ab b.length cb] 54, Bk g2 [.slice Al fl.length cl, J ((appendD nm (recI (kk, b)) d).1.most), J ((appendD nm (recI (kk, b)) d).1.fuse), .bool ((appendD nm (recI (kk, b)) d).1.down), .string nm, .slice Ai its.length ci] 41, Chunk.pview w P k38 Sl Al fl.length cl fl, Bk g6 [.slice Al fl.length cl, J ((appendD nm (recI (kk, b)) d).1.most), J ((appendD nm (recI (kk, b)) d).1.fuse), .bool ((appendD nm (recI (kk, b)) d).1.down)] 34] := O314
 clear O314
 refine Va H313 fun _ H317 => ?_
 refine gE hK308 ?_
 refine gw_seq fun K318 hK318 => ?_
 refine gR fun K319 hK319 => ?_
 refine Vc H317 fun _ H321 => ?_
 refine gE hK319 ?_
 clear H313 H317
 refine wp_block ?_
 refine gw_loop (fun m_ a_ w_ => ∃ (i : Int) (out : List S54) (Ao : Option Addr) (co : Nat) (So : Nat → Prop), Fr 69 a_ [(9, J i), (8, .slice Ao out.length co), (2, .pointer (some ⟨g2, 0, none⟩)), (3, .pointer (some ⟨g8, 0, none⟩)), (4, .pointer (some ⟨g14, 0, none⟩)), (5, J 0)] ∧ Own w w_ [Chunk.prow w P k54 54 w.heap.size So (.slice Ao out.length co) out, Bk g14 [.slice none 0 0, J 0, J 0, .bool false, .string (⟨#[]⟩ : ByteArray), .slice none 0 0] 41, Bk g8 [J kk, .slice Ab b.length cb] 54, Bk g2 [.slice Al fl.length cl, J ((appendD nm (recI (kk, b)) d).1.most), J ((appendD nm (recI (kk, b)) d).1.fuse), .bool ((appendD nm (recI (kk, b)) d).1.down), .string nm, .slice Ai its.length ci] 41, Chunk.pview w P k38 Sl Al fl.length cl fl, Bk g6 [.slice Al fl.length cl, J ((appendD nm (recI (kk, b)) d).1.most), J ((appendD nm (recI (kk, b)) d).1.fuse), .bool ((appendD nm (recI (kk, b)) d).1.down)] 34] ∧ (0 ≤ i ∧ i ≤ its.length) ∧ (out = its.take i.toNat) ∧ ((out.length : Int) = i) ∧ m_ = (its.length - i.toNat)) ((its.length - (0 : Int).toNat)) ?_ ?_
 ·
  refine ⟨0, [], A309, 0, _, (H321.pick (t := 9) rfl (H321.pick (t := 8) rfl (H321.pick (t := 2) rfl (H321.pick (t := 3) rfl (H321.pick (t := 4) rfl (H321.pick (t := 5) rfl H321.nil)))))), O315.sel [0, 1, 2, 3, 4, 5] (by decide), ?_, ?_, ?_, rfl⟩
  ·
   omega
  ·
   rfl
  rfl
 rintro m323 _ w325 ⟨i, out, Ao, co, So, H326, O327, hi, hout, hol, hm328⟩
 refine gw_seq fun K329 hK329 => ?_
 refine gR fun K330 hK330 => ?_
 refine Vm H326 fun _ H332 => ?_
 refine Vf H332 (gwfld41_2 _ _) fun _ H334 => ?_
 refine Vl H334 gwagg39 (O327.get 3 rfl) fun _ H336 => ?_
 refine V H336 (op_len Tryz.underlying39 rfl (H336.ev rfl)) fun _ H338 => ?_
 refine V H338 (op_lss rfl (H338.ev rfl) (H338.ev rfl)) fun _ H340 => ?_
 refine gE hK330 ?_
 clear H326 H332 H334 H336 H338
 refine gw_cond H340 rfl (fun hb341 => ?_) (fun hb341 => ?_)
 ·
  have H342 := H340.subst_ (d := 52) (b := true) rfl hb341
  clear H340
  (try simp only [decide_eq_true_eq] at hb341)
  refine gS hK329 ?_
  refine gw_seq fun K343 hK343 => ?_
  refine wp_block ?_
  refine wp_region_lit ?_
  refine Vm H342 fun _ H345 => ?_
  refine Vf H345 (gwfld41_2 _ _) fun _ H347 => ?_
  refine Vl H347 gwagg39 (O327.get 3 rfl) fun _ H349 => ?_
  refine Vm H349 fun _ H351 => ?_
  clear H342 H345 H347 H349
  obtain ⟨ad352, cs355, hA353, hl356, hK357, hc354, _⟩ := Kd.F_get hFi z54 i (by omega) (by omega)
  obtain ⟨A358, c359, rfl, hl360, hC361⟩ := k54_openF hK357
  clear hl356
  refine V H351 (op_index Tryz.underlying39 gwsiz54 rfl (H351.ev rfl) (H351.ev rfl) hA353 (⟨by omega, by omega⟩)) fun _ H363 => ?_
  refine V H363 (op_loadc gwagg54 gwsiz54 rfl (H363.ev rfl) rfl (cells0 O327 hc354)) fun _ H365 => ?_
  clear H351 H363
  refine gw_news (O := .cells #[J ((its.getD i.toNat z54).f0), .slice A358 ((its.getD i.toNat z54).f1.length) c359] 54 (0, 0)) (n := 1) H365 O327 (want_none rfl) rfl (by decide) (op_bslice (by kernel_rfl) rfl (pt_cons (H365.ev rfl) pt_nil)) ?_
  intro g366 _ w368 H369 O370; clear H365 O327
  have O371 : Own w w368 [Bk g366 [J ((its.getD i.toNat z54).f0), .slice A358 ((its.getD i.toNat z54).f1.length) c359] 54, Chunk.prow w P k54 54 w.heap.size So (.slice Ao out.length co) out, Bk g14 [.slice none 0 0, J 0, J 0, .bool false, .string (⟨#[]⟩ : ByteArray), .slice none 0 0] 41, Bk g8 [J kk, .slice Ab b.length cb] 54, Bk g2 [.slice Al fl.length cl, J ((appendD nm (recI (kk, b)) d).1.most), J ((appendD nm (recI (kk, b)) d).1.fuse), .bool ((appendD nm (recI (kk, b)) d).1.down), .string nm, .slice Ai its.length ci] 41, Chunk.pview w P k38 Sl Al fl.length cl fl, Bk g6 [.slice Al fl.length cl, J ((appendD nm (recI (kk, b)) d).1.most), J ((appendD nm (recI (kk, b)) d).1.fuse), .bool ((appendD nm (recI (kk, b)) d).1.down)] 34] := O370
  clear O370
  refine gw_pappend1 k54 (cs := [J ((its.getD i.toNat z54).f0), .slice A358 ((its.getD i.toNat z54).f1.length) c359]) (p := (⟨(its.getD i.toNat z54).f0, (its.getD i.toNat z54).f1⟩ : S54)) hP H369 (by exact O371.sel [1, 0, 2, 3, 4, 5, 6] (by decide)) (want_none rfl) rfl (by decide) rfl Tryz.underlying39 gwinfo54 rfl (by decide) (by decide) (H369.ev rfl) (H369.ev rfl) (k54_mkF _ _ (⟨(its.getD i.toNat z54).f0, (its.getD i.toNat z54).f1⟩ : S54) hl360 hC361) O371.below.size (by first | omega | (simp; omega)) ?_
  intro A372 c373 S374 _ w376 H377 O378; clear H369 O371
  have O379 : Own w w376 [Chunk.prow w P k54 54 w.heap.size S374 (.slice A372 ((out ++ [(⟨(its.getD i.toNat z54).f0, (its.getD i.toNat z54).f1⟩ : S54)]).length) c373) (out ++ [(⟨(its.getD i.toNat z54).f0, (its.getD i.toNat z54).f1⟩ : S54)]), Bk g14 [.slice none 0 0, J 0, J 0, .bool false, .string (⟨#[]⟩ : ByteArray), .slice none 0 0] 41, Bk g8 [J kk, .slice Ab b.length cb] 54, Bk g2 [.slice Al fl.length cl, J ((appendD nm (recI (kk, b)) d).1.most), J ((appendD nm (recI (kk, b)) d).1.fuse), .bool ((appendD nm (recI (kk, b)) d).1.down), .string nm, .slice Ai its.length ci] 41, Chunk.pview w P k38 Sl Al fl.length cl fl, Bk g6 [.slice Al fl.length cl, J ((appendD nm (recI (kk, b)) d).1.most), J ((appendD nm (recI (kk, b)) d).1.fuse), .bool ((appendD nm (recI (kk, b)) d).1.down)] 34] := O378
  clear O378
  refine Va H377 fun _ H381 => ?_
  clear H377
  refine wpList_nil ?_
  refine gw_blk ?_
  refine gw_nx (hK343 _ _ ?_)
  refine wp_region_lit ?_
  refine Vm H381 fun _ H383 => ?_
  refine V H383 (op_add rfl (H383.ev rfl) (ev_c _ _) (by omega)) fun _ H385 => ?_
  refine Va H385 fun _ H387 => ?_
  clear H381 H383 H385
  refine wpList_nil ?_
  refine gw_nx ⟨_, ?_, i + 1, (out ++ [(⟨(its.getD i.toNat z54).f0, (its.getD i.toNat z54).f1⟩ : S54)]), A372, c373, _, (H387.pick (t := 9) rfl (H387.pick (t := 8) rfl (H387.pick (t := 2) rfl (H387.pick (t := 3) rfl (H387.pick (t := 4) rfl (H387.pick (t := 5) rfl H387.nil)))))), O379.sel [0, 1, 2, 3, 4, 5] (by decide), ?_, ?_, ?_, rfl⟩
  ·
   rw [hm328]; omega
  ·
   omega
  ·
   rw [hout]; exact take_snocI its i (by omega) (by omega)
  rw [List.length_append, List.length_singleton]; omega
 have H388 := H340.subst_ (d := 52) (b := false) rfl hb341
 clear H340
 (try simp only [decide_eq_false_iff_not, Int.not_lt] at hb341)
 refine wp_exit ?_
 refine gw_thx ?_
 refine gw_thx ?_
 refine gw_in ?_
 refine gw_nx (hK318 _ _ ?_)
 refine gR fun K389 hK389 => ?_
 refine Vm H388 fun _ H391 => ?_
 refine V H391 (op_loadn gwagg54 gwsiz54 rfl (H391.ev rfl) (O327.get 2 rfl) rfl rfl) fun _ H393 => ?_
 clear H388 H391
 refine gw_news (O := .cells #[J kk, .slice Ab b.length cb] 54 (0, 0)) (n := 1) H393 O327 (want_none rfl) rfl (by decide) (op_bslice (by kernel_rfl) rfl (pt_cons (H393.ev rfl) pt_nil)) ?_
 intro g394 _ w396 H397 O398; clear H393 O327
 have O399 : Own w w396 [Bk g394 [J kk, .slice Ab b.length cb] 54, Chunk.prow w P k54 54 w.heap.size So (.slice Ao out.length co) out, Bk g14 [.slice none 0 0, J 0, J 0, .bool false, .string (⟨#[]⟩ : ByteArray), .slice none 0 0] 41, Bk g8 [J kk, .slice Ab b.length cb] 54, Bk g2 [.slice Al fl.length cl, J ((appendD nm (recI (kk, b)) d).1.most), J ((appendD nm (recI (kk, b)) d).1.fuse), .bool ((appendD nm (recI (kk, b)) d).1.down), .string nm, .slice Ai its.length ci] 41, Chunk.pview w P k38 Sl Al fl.length cl fl, Bk g6 [.slice Al fl.length cl, J ((appendD nm (recI (kk, b)) d).1.most), J ((appendD nm (recI (kk, b)) d).1.fuse), .bool ((appendD nm (recI (kk, b)) d).1.down)] 34] := O398
 clear O398
 refine gw_pappend1 k54 (cs := [J kk, .slice Ab b.length cb]) (p := (⟨kk, b⟩ : S54)) hP H397 (by exact O399.sel [1, 0, 2, 3, 4, 5, 6] (by decide)) (want_none rfl) rfl (by decide) rfl Tryz.underlying39 gwinfo54 rfl (by decide) (by decide) (H397.ev rfl) (H397.ev rfl) (k54_mkF _ _ (⟨kk, b⟩ : S54) hcb hFb) O399.below.size (by first | omega | (simp; omega)) ?_
 intro A400 c401 S402 _ w404 H405 O406; clear H397 O399
 have O407 : Own w w404 [Chunk.prow w P k54 54 w.heap.size S402 (.slice A400 ((out ++ [(⟨kk, b⟩ : S54)]).length) c401) (out ++ [(⟨kk, b⟩ : S54)]), Bk g14 [.slice none 0 0, J 0, J 0, .bool false, .string (⟨#[]⟩ : ByteArray), .slice none 0 0] 41, Bk g8 [J kk, .slice Ab b.length cb] 54, Bk g2 [.slice Al fl.length cl, J ((appendD nm (recI (kk, b)) d).1.most), J ((appendD nm (recI (kk, b)) d).1.fuse), .bool ((appendD nm (recI (kk, b)) d).1.down), .string nm, .slice Ai its.length ci] 41, Chunk.pview w P k38 Sl Al fl.length cl fl, Bk g6 [.slice Al fl.length cl, J ((appendD nm (recI (kk, b)) d).1.most), J ((appendD nm (recI (kk, b)) d).1.fuse), .bool ((appendD nm (recI (kk, b)) d).1.down)] 34] := O406
 clear O406
 refine Vf H405 (gwfld41_2 _ _) fun _ H409 => ?_
 clear H405
 refine gw_set 3 H409 O407 rfl (want_none rfl) rfl (op_store1 gwsiz39 rfl (H409.ev rfl) (H409.ev rfl) rfl (blk_at (O407.get 3 rfl) rfl) (blkf (O407.get 3 rfl))) ?_
 intro _ w412 H411 O413; clear H409 O407
 refine gE hK389 ?_
 refine gR fun K414 hK414 => ?_
 refine V H411 (op_loadn gwagg41 gwsiz41 rfl (H411.ev rfl) (O413.get 3 rfl) rfl rfl) fun _ H416 => ?_
 clear H411
 refine gw_setn 1 H416 O413 rfl (want_none rfl) rfl (op_storen gwsiz41 rfl (H416.ev rfl) (H416.ev rfl) (O413.get 1 rfl) rfl (by simp) (by simp [Value.oneCell'])) ?_
 intro _ w419 H418 O420; clear H416 O413
 refine Vc H418 fun _ H422 => ?_
 refine gE hK414 ?_
 refine wp_ret ?_
 clear H418
 refine gw_rets2 H422 rfl (rv_celln H422 rfl gwagg41 gwsiz41 (O420.get 1 rfl) rfl) (rv_tmp H422 rfl) ?_
 exact jpost_of (d2 := (appendD nm (recI (kk, b)) d).1) (its := (out ++ [(⟨kk, b⟩ : S54)])) O420 (by rw [put_ok (by omega) (by omega) hhas happ]; exact Prod.ext rfl happ) ⟨rfl, rfl, rfl⟩ hdl (by rw [put_ok (by omega) (by omega) hhas happ, hout, List.take_of_length_le (by omega), List.map_append]; rfl) (led_pview (i := 4) O420 hP rfl) (led_prow (i := 0) O420 hP rfl)
end GRj3_
export GRj3_ (sync_ref put_ref)
section
open Go.Maps
theorem sync_p {w0 w : World} {P Sm : Nat → Prop} {L : List Chunk} (Am : Option Addr) (cm : Nat) (files : List SFile) (Ai : Option Addr) (ni ci : Nat) (d : PD) (nm : ByteArray) (i : Nat) (hP : ∀ k, P k → k < w0.heap.size) (HO : Own w0 w L) (hi : L[i]? = some (Chunk.pview w0 P kFile Sm Am files.length cm files)) (hlf : files.length ≤ 1000000) (hd : files.map ofS = d.fs) (hw : wfD d) (hus : d.used ≤ 100000000) :
    Calls Tryz.prog 18 #[.agg #[.slice Am files.length cm, .int .i64 d.most, .int .i64 d.fuse, .bool d.down, .string nm, .slice Ai ni ci]] w fun e w' => ∃ (files' : List SFile) (A' : Option Addr) (c' : Nat) (S' : Nat → Prop), files'.map ofS = (syncD nm d).1.fs ∧
      e = .returned (.tuple #[.agg #[.slice A' files'.length c', .int .i64 (syncD nm d).1.most, .int .i64 (syncD nm d).1.fuse, .bool (syncD nm d).1.down, .string nm, .slice Ai ni ci], .int .i64 (syncD nm d).2]) ∧ Out w w' Sm [Chunk.pview w0 P kFile S' A' files'.length c' files'] := by
  have hS : ∀ k, Sm k → k < w.heap.size := fun k hk => (HO.lt i hi hk).2
  have hPS : ∀ k, (P k ∨ Sm k) → k < w.heap.size := fun k hk => hk.elim (fun h => Nat.lt_of_lt_of_le (hP k h) HO.below.size) (hS k)
  have hv := HO.get i hi
  refine (sync_ref (fun k => P k ∨ Sm k) Am cm files Ai ni ci d nm w hPS (pview_F HO hP hi) hv.2.1 hv.2.2 hlf hd hw hus).mono ?_
  rintro e w' ⟨files', A', c', h1, h2, ⟨h3, h4, h5⟩, h6⟩
  exact ⟨files', A', c', _, h1, h2, pview_out HO hP h6 hS h3 h4 h5⟩
end
end Go.Proofs.YtkdahjnmldeklaaGreat.PA
