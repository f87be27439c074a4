/- The row of the law SumParts: for every input the call returns true and leaves its arguments as they were. Printed by a program of this session. -/
/- What this claim uses of this session's own texts, put together by a program: GParts HOpen HKinds Ty49 Ty46 Ty24 StmtSumParts PureSumParts LawSumParts. -/
import Derived.Test.YtljmbgilcngfgaaDoorKSumParts3
import Derived.Test.YtljmbgilcngfgaaDoorProg
import Derived.Test.YtljmbgilcngfgaaDoorRows
import Derived.Test.YtljmbgilcngfgaaDoorCards
import Derived.Test.YtljmbgilcngfgaaDoorTie
namespace Go.Proofs.YtljmbgilcngfgaaDoor.PA
open Go.RowKit Go.Proofs.YtljmbgilcngfgaaDoorW.PrintWords Go.Proofs.YtljmbgilcngfgaaDoorW.PrintLast Go.Proofs.YtljmbgilcngfgaaDoorW.PrintMore
set_option linter.unusedVariables false
set_option linter.unusedSimpArgs false
set_option maxRecDepth 100000
set_option maxHeartbeats 8000000
namespace GParts_
theorem parts_walk (su bo : ByteArray) (A0 : Option Addr) (c0 : Nat) (ps : List S46) (su2 bo2 : ByteArray) (A1 : Option Addr) (c1 : Nat) (qs : List S46) (w : World) (hr : Kd.C k46 w A0 ps.length ps) (hc : ps.length ≤ c0) (hr1 : Kd.C k46 w A1 qs.length qs) (hc1 : qs.length ≤ c1) (hz : szP ps) (hz2 : szP qs) (hL : LaidW w) :
    Calls Tryd.prog 8 #[.agg #[.string su, .string bo, .slice A0 ps.length c0], .agg #[.string su2, .string bo2, .slice A1 qs.length c1]] w fun e w' => e = .returned (.bool true) ∧ Below w.heap.size w w' := by
 have hpl := len_C hr
 have hql := len_C hr1
 obtain ⟨Wa, hRa, hWa⟩ := parts_W hr
 obtain ⟨Wb, hRb, hWb⟩ := parts_W hr1
 have hal := hRa.1
 have hbl := hRb.1
 refine gw_start (N := 134) (vs := [.agg #[.string su, .string bo, .slice A0 ps.length c0], .agg #[.string su2, .string bo2, .slice A1 qs.length c1]]) Tryd.func8 rfl rfl (by simp) fun a HF HO => ?_
 replace HO : Own w w [] := HO
 refine gR fun K1 hK1 => ?_
 refine gw_new HF HO (want_none rfl) rfl (by decide) (op_box rfl (HF.ev rfl)) ?_
 intro g2 _ w4 H5 O6; clear HF HO
 have O7 : Own w w4 [Bk g2 [.string su, .string bo, .slice A0 ps.length c0] 24] := O6
 clear O6
 refine gw_new H5 O7 (want_none rfl) rfl (by decide) (op_box rfl (H5.ev rfl)) ?_
 intro g8 _ w10 H11 O12; clear H5 O7
 have O13 : Own w w10 [Bk g8 [.string su2, .string bo2, .slice A1 qs.length c1] 24, Bk g2 [.string su, .string bo, .slice A0 ps.length c0] 24] := O12
 clear O12
 refine Vc H11 fun _ H15 => ?_
 refine gE hK1 ?_
 refine gw_seq fun K16 hK16 => ?_
 refine gR fun K17 hK17 => ?_
 clear H11
 refine Wk H15 Tryd.func9 rfl ar_nil (alive_walk _ (hL.own O13)) ?_
 rintro e18 w19 ⟨rfl, hb20⟩
 refine ⟨_, rfl, fun _ H22 => ?_⟩
 have O23 := O13.after hb20
 clear H15 O13 hb20
 refine V H22 (op_not rfl (H22.ev rfl)) fun _ H26 => ?_
 refine gE hK17 ?_
 clear H22
 refine gw_cond H26 rfl (fun hb27 => ?_) (fun hb27 => ?_)
 ·
  cases hb27
 refine gS hK16 ?_
 refine gw_seq fun K28 hK28 => ?_
 refine gR fun K29 hK29 => ?_
 refine V H26 (op_loadn gwagg24 gwsiz24 rfl (H26.ev rfl) (O23.get 1 rfl) rfl rfl) fun _ H31 => ?_
 clear H26
 refine Wk H31 Tryd.func10 rfl (ar_cons (H31.ev rfl) ar_nil) (few_calls A0 c0 su bo ps _ hz (Kd.C_below hr O23.below) hc) ?_
 rintro e32 w33 ⟨rfl, hb34⟩
 refine ⟨_, rfl, fun _ H36 => ?_⟩
 have O37 := O23.after hb34
 clear H31 O23 hb34
 refine V H36 (op_not rfl (H36.ev rfl)) fun _ H40 => ?_
 refine Vm H40 fun _ H42 => ?_
 clear H36 H40
 refine gw_evG H42 rfl rfl rfl rfl (on_f _) rfl (by decide) (fun h_ => (op_loadn gwagg24 gwsiz24 rfl (H42.ev rfl) (O37.get 0 rfl) rfl rfl)) ?_
 intro _ H44; clear H42
 refine gw_callG H44 rfl rfl rfl rfl (on_f _) rfl (by decide) (fun h_ => (op_callL Tryd.func10 (by kernel_rfl) rfl rfl (ar_cons (ev_gv (H44.ev rfl) h_) ar_nil))) (fun h_ => few_calls A1 c1 su2 bo2 qs _ hz2 (Kd.C_below hr1 O37.below) hc1) ?_
 intro _ w47 hb48 H46
 have O49 := O37.after hb48; clear H44 O37 hb48
 refine gw_evG H46 rfl rfl rfl rfl (on_f _) rfl (by decide) (fun h_ => (op_not rfl (ev_gv (H46.ev rfl) h_))) ?_
 intro _ H51; clear H46
 refine V H51 (op_pick_or rfl (H51.ev rfl) (ev_c _ _) (fun hp_ => (ev_gv (H51.ev rfl) (not_t hp_)))) fun _ H53 => ?_
 refine Vm H53 fun _ H55 => ?_
 clear H51 H53
 refine gw_evG H55 rfl rfl rfl rfl (on_f _) rfl (by decide) (fun h_ => (op_loadn gwagg24 gwsiz24 rfl (H55.ev rfl) (O49.get 1 rfl) rfl rfl)) ?_
 intro _ H57; clear H55
 refine gw_callG H57 rfl rfl rfl rfl (on_f _) rfl (by decide) (fun h_ => (op_callL Tryd.func14 (by kernel_rfl) rfl rfl (ar_cons (ev_gv (H57.ev rfl) h_) ar_nil))) (fun h_ => right_calls A0 c0 su bo ps _ hz (Kd.C_below hr O49.below) hc) ?_
 intro _ w60 hb61 H59
 have O62 := O49.after hb61; clear H57 O49 hb61
 refine gw_evG H59 rfl rfl rfl rfl (on_f _) rfl (by decide) (fun h_ => (op_not rfl (ev_gv (H59.ev rfl) h_))) ?_
 intro _ H64; clear H59
 refine V H64 (op_pick_or rfl (H64.ev rfl) (ev_c _ _) (fun hp_ => (ev_gv (H64.ev rfl) (not_t hp_)))) fun _ H66 => ?_
 refine Vm H66 fun _ H68 => ?_
 clear H64 H66
 refine gw_evG H68 rfl rfl rfl rfl (on_f _) rfl (by decide) (fun h_ => (op_loadn gwagg24 gwsiz24 rfl (H68.ev rfl) (O62.get 0 rfl) rfl rfl)) ?_
 intro _ H70; clear H68
 refine gw_callG H70 rfl rfl rfl rfl (on_f _) rfl (by decide) (fun h_ => (op_callL Tryd.func14 (by kernel_rfl) rfl rfl (ar_cons (ev_gv (H70.ev rfl) h_) ar_nil))) (fun h_ => right_calls A1 c1 su2 bo2 qs _ hz2 (Kd.C_below hr1 O62.below) hc1) ?_
 intro _ w73 hb74 H72
 have O75 := O62.after hb74; clear H70 O62 hb74
 refine gw_evG H72 rfl rfl rfl rfl (on_f _) rfl (by decide) (fun h_ => (op_not rfl (ev_gv (H72.ev rfl) h_))) ?_
 intro _ H77; clear H72
 refine V H77 (op_pick_or rfl (H77.ev rfl) (ev_c _ _) (fun hp_ => (ev_gv (H77.ev rfl) (not_t hp_)))) fun _ H79 => ?_
 refine gE hK29 ?_
 clear H77
 refine gw_cond H79 rfl (fun hb80 => ?_) (fun hb80 => ?_)
 ·
  have H81 := H79.subst_ (d := 35) (b := true) rfl hb80
  clear H79
  (try simp only [Bool.and_eq_true, Bool.and_eq_false_iff, Bool.not_and, Bool.or_eq_true, Bool.or_eq_false_iff, Bool.not_or, Bool.not_not, Bool.not_eq_true', Bool.not_eq_false', Bool.not_eq_true, Bool.not_eq_false, decide_eq_true_eq, decide_eq_false_iff_not, Int.not_le] at hb80)
  refine gR fun K82 hK82 => ?_
  refine Vc H81 fun _ H84 => ?_
  refine gE hK82 ?_
  refine wp_ret ?_
  clear H81
  refine gw_thr ?_
  refine gw_ret1 H84 rfl rfl ?_
  exact ⟨rfl, O75.below⟩
 have H85 := H79.subst_ (d := 35) (b := false) rfl hb80
 clear H79
 (try simp only [Bool.and_eq_true, Bool.and_eq_false_iff, Bool.not_and, Bool.or_eq_true, Bool.or_eq_false_iff, Bool.not_or, Bool.not_not, Bool.not_eq_true', Bool.not_eq_false', Bool.not_eq_true, Bool.not_eq_false, decide_eq_true_eq, decide_eq_false_iff_not, Int.not_le] at hb80)
 obtain ⟨hf1, hf2, hy1, hy2⟩ : ((ps.length : Int) + sumL ps ≤ 2000) ∧ ((qs.length : Int) + sumL qs ≤ 2000) ∧ rightS su bo ps = true ∧ rightS su2 bo2 qs = true := by have hb_ := hb80; revert hb_; cases rightS su bo ps <;> cases rightS su2 bo2 qs <;> simp <;> omega
 have hlen : (ps ++ qs).length = ps.length + qs.length := List.length_append
 have hsum := sum_app ps qs
 have hzz : szP (ps ++ qs) := sz_app hz hz2 (by omega)
 have hyy : rightS su bo (ps ++ qs) = true := right_app hy1 hy2
 refine gS hK28 ?_
 refine gw_joinS (fun a_ w_ => ∃ (gq : Nat) (Aq : Option Addr) (cq : Nat) (wq : World) (Sq : Nat → Prop), Fr 134 a_ [(5, .pointer (some ⟨gq, 0, none⟩)), (2, .pointer (some ⟨g2, 0, none⟩)), (3, .pointer (some ⟨g8, 0, none⟩)), (4, .bool false)] ∧ Own w w_ [Bk gq [.string su, .string bo, .slice Aq ((ps ++ qs).length) cq] 24, Chunk.frz wq Sq, Bk g8 [.string su2, .string bo2, .slice A1 qs.length c1] 24, Bk g2 [.string su, .string bo, .slice A0 ps.length c0] 24] ∧ (Below w.heap.size w wq) ∧ (Kd.F KP wq (okF w Sq) Aq (ps ++ qs).length (ps ++ qs)) ∧ ((ps ++ qs).length ≤ cq)) ?_ ?_
 ·
  refine gx_draw (M := [Bk g8 [.string su2, .string bo2, .slice A1 qs.length c1] 24, Bk g2 [.string su, .string bo, .slice A0 ps.length c0] 24]) (fun j_ => false) O75 (by kernel_rfl) fun w86 O87 => ?_
  clear O75
  refine gx_take 0 rfl (by kernel_rfl) H85 (by exact O87.sel [0, 1] (by decide)) (want_none rfl) rfl (by decide) (fun wq HO => (op_field (gwfld24_0 _ _) rfl (H85.ev rfl))) ?_
  intro _ H89; clear H85
  refine gx_take 1 rfl (by kernel_rfl) H89 (by exact O87.sel [0, 1] (by decide)) (want_none rfl) rfl (by decide) (fun wq HO => (op_load1 gwagg9 rfl (H89.ev rfl) (blk_at (HO.get 1 rfl) rfl))) ?_
  intro _ H91; clear H89
  refine gx_take 2 rfl (by kernel_rfl) H91 (by exact O87.sel [0, 1] (by decide)) (want_none rfl) rfl (by decide) (fun wq HO => (op_field (gwfld24_1 _ _) rfl (H91.ev rfl))) ?_
  intro _ H93; clear H91
  refine gx_take 3 rfl (by kernel_rfl) H93 (by exact O87.sel [0, 1] (by decide)) (want_none rfl) rfl (by decide) (fun wq HO => (op_load1 gwagg9 rfl (H93.ev rfl) (blk_at (HO.get 1 rfl) rfl))) ?_
  intro _ H95; clear H93
  refine gx_take 5 rfl (by kernel_rfl) H95 (by exact O87.sel [0, 1] (by decide)) (want_none rfl) rfl (by decide) (fun wq HO => (op_field (gwfld24_2 _ _) rfl (H95.ev rfl))) ?_
  intro _ H97; clear H95
  refine gx_take 6 rfl (by kernel_rfl) H97 (by exact O87.sel [0, 1] (by decide)) (want_none rfl) rfl (by decide) (fun wq HO => (op_load1 gwagg22 rfl (H97.ev rfl) (blk_at (HO.get 1 rfl) rfl))) ?_
  intro _ H99; clear H97
  refine gx_take 8 rfl (by kernel_rfl) H99 (by exact O87.sel [0, 1] (by decide)) (want_none rfl) rfl (by decide) (fun wq HO => (op_field (gwfld24_2 _ _) rfl (H99.ev rfl))) ?_
  intro _ H101; clear H99
  refine gx_take 9 rfl (by kernel_rfl) H101 (by exact O87.sel [0, 1] (by decide)) (want_none rfl) rfl (by decide) (fun wq HO => (op_load1 gwagg22 rfl (H101.ev rfl) (blk_at (HO.get 0 rfl) rfl))) ?_
  intro _ H103; clear H101
  refine gx_two 4 12 rfl rfl (by kernel_rfl) ?_ ?_
  ·
   refine gw_rlit0 kW (e := 46) H103 O87 (want_none rfl) rfl (by decide) (op_bslice (by kernel_rfl) rfl pt_nil) ?_
   intro A104 S105 _ w107 H108 O109; clear H103 O87
   have O110 : Own w w107 [Chunk.row kW 46 w.heap.size S105 (.slice A104 (([] : List W2).length) 0) ([] : List W2), Bk g8 [.string su2, .string bo2, .slice A1 qs.length c1] 24, Bk g2 [.string su, .string bo, .slice A0 ps.length c0] 24] := O109
   clear O109
   refine gx_on (i := 4) (B := (fun j_ => false)) (fun _ => (by exact O110.sel [1, 2] (by decide))) ?_
   refine gx_two 7 12 rfl rfl (by kernel_rfl) ?_ ?_
   ·
    refine gw_append kW 0 H108 O110 (want_none rfl) rfl (by decide) rfl Tryd.underlying22 gwinfo46 rfl (by decide) (by decide) rfl (H108.ev rfl) (H108.ev rfl) (Kd.C_below hWa O110.below) (fun _ _ h_ => (flatW.M _ _ _ _ _).2 (flatW.K _ _ _ h_)) O110.below.size (by rw [List.length_nil]; omega) ?_
    intro A111 c112 S113 _ w115 H116 O117; clear H108 O110
    have O118 : Own w w115 [Chunk.row kW 46 w.heap.size S113 (.slice A111 ((([] : List W2) ++ Wa).length) c112) (([] : List W2) ++ Wa), Bk g8 [.string su2, .string bo2, .slice A1 qs.length c1] 24, Bk g2 [.string su, .string bo, .slice A0 ps.length c0] 24] := O117
    clear O117
    refine gx_on (i := 7) (B := (fun j_ => false)) (fun _ => (by exact O118.sel [1, 2] (by decide))) ?_
    refine gx_two 10 12 rfl rfl (by kernel_rfl) ?_ ?_
    ·
     refine gw_append kW 0 H116 O118 (want_none rfl) rfl (by decide) rfl Tryd.underlying22 gwinfo46 rfl (by decide) (by decide) rfl (H116.ev rfl) (H116.ev rfl) (Kd.C_below hWb O118.below) (fun _ _ h_ => (flatW.M _ _ _ _ _).2 (flatW.K _ _ _ h_)) O118.below.size (by rw [List.length_append, List.length_nil]; omega) ?_
     intro A119 c120 S121 _ w123 H124 O125; clear H116 O118
     have O126 : Own w w123 [Chunk.row kW 46 w.heap.size S121 (.slice A119 (((([] : List W2) ++ Wa) ++ Wb).length) c120) ((([] : List W2) ++ Wa) ++ Wb), Bk g8 [.string su2, .string bo2, .slice A1 qs.length c1] 24, Bk g2 [.string su, .string bo, .slice A0 ps.length c0] 24] := O125
     clear O125
     obtain ⟨O127, hFz128, hlz129, hbz130⟩ := parts_frz O126 0 rfl (relK_two hRa hRb)
     clear O126
     have hn_ := (relK_two hRa hRb).1
     rw [hn_] at hFz128 hlz129
     have O131 : Own w w123 [Chunk.frz w123 S121, Bk g8 [.string su2, .string bo2, .slice A1 qs.length c1] 24, Bk g2 [.string su, .string bo, .slice A0 ps.length c0] 24] := O127
     clear O127
     have H132 := H124.conv (v' := .slice A119 ((ps ++ qs).length) c120) (congrArg (fun n_ => Value.slice A119 n_ c120) hn_)
     clear H124
     refine gx_on (i := 10) (B := (fun j_ => false)) (fun _ => (by exact O131.sel [1, 2] (by decide))) ?_
     refine gx_take 11 rfl (by kernel_rfl) H132 (by exact O131.sel [1, 2] (by decide)) (want_none rfl) rfl (by decide) (fun wq HO => (op_build (cells := #[.string su, .string bo, .slice A119 ((ps ++ qs).length) c120]) rfl (pt_cons (H132.ev rfl) (pt_cons (H132.ev rfl) (pt_cons (H132.ev rfl) pt_nil))) (by kernel_rfl))) ?_
     intro _ H134; clear H132
     refine gx_step 12 rfl (by kernel_rfl) ?_
     refine gw_new H134 O131 (want_none rfl) rfl (by decide) (op_alloc gwzer24 rfl) ?_
     intro g135 _ w137 H138 O139; clear H134 O131
     have O140 : Own w w137 [Bk g135 [.string (⟨#[]⟩ : ByteArray), .string (⟨#[]⟩ : ByteArray), .slice none 0 0] 24, Chunk.frz w123 S121, Bk g8 [.string su2, .string bo2, .slice A1 qs.length c1] 24, Bk g2 [.string su, .string bo, .slice A0 ps.length c0] 24] := O139
     clear O139
     refine gx_on (i := 12) (B := (fun j_ => false)) (fun _ => (by exact O140.sel [2, 3] (by decide))) ?_
     refine gx_step 13 rfl (by kernel_rfl) ?_
     refine gw_setn 0 H138 O140 rfl (want_none rfl) rfl (op_storen gwsiz24 rfl (H138.ev rfl) (H138.ev rfl) (O140.get 0 rfl) rfl (by simp) (by simp [Value.oneCell'])) ?_
     intro _ w143 H142 O144; clear H138 O140
     refine gx_on (i := 13) (B := (fun j_ => false)) (fun _ => (by exact O144.sel [2, 3] (by decide))) ?_
     refine gx_done (by kernel_rfl) ?_
     refine gw_nx ⟨g135, A119, c120, w123, S121, (H142.pick (t := 5) rfl (H142.pick (t := 2) rfl (H142.pick (t := 3) rfl (H142.pick (t := 4) rfl H142.nil)))), O144.sel [0, 1, 2, 3] (by decide), ?_, ?_, ?_⟩
     ·
      exact hbz130
     ·
      exact hFz128
     exact hlz129
    refine gw_new H116 O118 (want_none rfl) rfl (by decide) (op_alloc gwzer24 rfl) ?_
    intro g145 _ w147 H148 O149; clear H116 O118
    have O150 : Own w w147 [Bk g145 [.string (⟨#[]⟩ : ByteArray), .string (⟨#[]⟩ : ByteArray), .slice none 0 0] 24, Chunk.row kW 46 w.heap.size S113 (.slice A111 ((([] : List W2) ++ Wa).length) c112) (([] : List W2) ++ Wa), Bk g8 [.string su2, .string bo2, .slice A1 qs.length c1] 24, Bk g2 [.string su, .string bo, .slice A0 ps.length c0] 24] := O149
    clear O149
    refine gx_on (i := 12) (B := (fun j_ => false)) (fun _ => (by exact O150.sel [2, 3] (by decide))) ?_
    refine gx_step 10 rfl (by kernel_rfl) ?_
    refine gw_append kW 1 H148 O150 (want_none rfl) rfl (by decide) rfl Tryd.underlying22 gwinfo46 rfl (by decide) (by decide) rfl (H148.ev rfl) (H148.ev rfl) (Kd.C_below hWb O150.below) (fun _ _ h_ => (flatW.M _ _ _ _ _).2 (flatW.K _ _ _ h_)) O150.below.size (by rw [List.length_append, List.length_nil]; omega) ?_
    intro A151 c152 S153 _ w155 H156 O157; clear H148 O150
    have O158 : Own w w155 [Bk g145 [.string (⟨#[]⟩ : ByteArray), .string (⟨#[]⟩ : ByteArray), .slice none 0 0] 24, Chunk.row kW 46 w.heap.size S153 (.slice A151 (((([] : List W2) ++ Wa) ++ Wb).length) c152) ((([] : List W2) ++ Wa) ++ Wb), Bk g8 [.string su2, .string bo2, .slice A1 qs.length c1] 24, Bk g2 [.string su, .string bo, .slice A0 ps.length c0] 24] := O157
    clear O157
    obtain ⟨O159, hFz160, hlz161, hbz162⟩ := parts_frz O158 1 rfl (relK_two hRa hRb)
    clear O158
    have hn_ := (relK_two hRa hRb).1
    rw [hn_] at hFz160 hlz161
    have O163 : Own w w155 [Bk g145 [.string (⟨#[]⟩ : ByteArray), .string (⟨#[]⟩ : ByteArray), .slice none 0 0] 24, Chunk.frz w155 S153, Bk g8 [.string su2, .string bo2, .slice A1 qs.length c1] 24, Bk g2 [.string su, .string bo, .slice A0 ps.length c0] 24] := O159
    clear O159
    have H164 := H156.conv (v' := .slice A151 ((ps ++ qs).length) c152) (congrArg (fun n_ => Value.slice A151 n_ c152) hn_)
    clear H156
    refine gx_on (i := 10) (B := (fun j_ => false)) (fun _ => (by exact O163.sel [2, 3] (by decide))) ?_
    refine gx_take 11 rfl (by kernel_rfl) H164 (by exact O163.sel [2, 3] (by decide)) (want_none rfl) rfl (by decide) (fun wq HO => (op_build (cells := #[.string su, .string bo, .slice A151 ((ps ++ qs).length) c152]) rfl (pt_cons (H164.ev rfl) (pt_cons (H164.ev rfl) (pt_cons (H164.ev rfl) pt_nil))) (by kernel_rfl))) ?_
    intro _ H166; clear H164
    refine gx_step 13 rfl (by kernel_rfl) ?_
    refine gw_setn 0 H166 O163 rfl (want_none rfl) rfl (op_storen gwsiz24 rfl (H166.ev rfl) (H166.ev rfl) (O163.get 0 rfl) rfl (by simp) (by simp [Value.oneCell'])) ?_
    intro _ w169 H168 O170; clear H166 O163
    refine gx_on (i := 13) (B := (fun j_ => false)) (fun _ => (by exact O170.sel [2, 3] (by decide))) ?_
    refine gx_done (by kernel_rfl) ?_
    refine gw_nx ⟨g145, A151, c152, w155, S153, (H168.pick (t := 5) rfl (H168.pick (t := 2) rfl (H168.pick (t := 3) rfl (H168.pick (t := 4) rfl H168.nil)))), O170.sel [0, 1, 2, 3] (by decide), ?_, ?_, ?_⟩
    ·
     exact hbz162
    ·
     exact hFz160
    exact hlz161
   refine gw_new H108 O110 (want_none rfl) rfl (by decide) (op_alloc gwzer24 rfl) ?_
   intro g171 _ w173 H174 O175; clear H108 O110
   have O176 : Own w w173 [Bk g171 [.string (⟨#[]⟩ : ByteArray), .string (⟨#[]⟩ : ByteArray), .slice none 0 0] 24, Chunk.row kW 46 w.heap.size S105 (.slice A104 (([] : List W2).length) 0) ([] : List W2), Bk g8 [.string su2, .string bo2, .slice A1 qs.length c1] 24, Bk g2 [.string su, .string bo, .slice A0 ps.length c0] 24] := O175
   clear O175
   refine gx_on (i := 12) (B := (fun j_ => false)) (fun _ => (by exact O176.sel [2, 3] (by decide))) ?_
   refine gx_step 7 rfl (by kernel_rfl) ?_
   refine gw_append kW 1 H174 O176 (want_none rfl) rfl (by decide) rfl Tryd.underlying22 gwinfo46 rfl (by decide) (by decide) rfl (H174.ev rfl) (H174.ev rfl) (Kd.C_below hWa O176.below) (fun _ _ h_ => (flatW.M _ _ _ _ _).2 (flatW.K _ _ _ h_)) O176.below.size (by rw [List.length_nil]; omega) ?_
   intro A177 c178 S179 _ w181 H182 O183; clear H174 O176
   have O184 : Own w w181 [Bk g171 [.string (⟨#[]⟩ : ByteArray), .string (⟨#[]⟩ : ByteArray), .slice none 0 0] 24, Chunk.row kW 46 w.heap.size S179 (.slice A177 ((([] : List W2) ++ Wa).length) c178) (([] : List W2) ++ Wa), Bk g8 [.string su2, .string bo2, .slice A1 qs.length c1] 24, Bk g2 [.string su, .string bo, .slice A0 ps.length c0] 24] := O183
   clear O183
   refine gx_on (i := 7) (B := (fun j_ => false)) (fun _ => (by exact O184.sel [2, 3] (by decide))) ?_
   refine gx_step 10 rfl (by kernel_rfl) ?_
   refine gw_append kW 1 H182 O184 (want_none rfl) rfl (by decide) rfl Tryd.underlying22 gwinfo46 rfl (by decide) (by decide) rfl (H182.ev rfl) (H182.ev rfl) (Kd.C_below hWb O184.below) (fun _ _ h_ => (flatW.M _ _ _ _ _).2 (flatW.K _ _ _ h_)) O184.below.size (by rw [List.length_append, List.length_nil]; omega) ?_
   intro A185 c186 S187 _ w189 H190 O191; clear H182 O184
   have O192 : Own w w189 [Bk g171 [.string (⟨#[]⟩ : ByteArray), .string (⟨#[]⟩ : ByteArray), .slice none 0 0] 24, Chunk.row kW 46 w.heap.size S187 (.slice A185 (((([] : List W2) ++ Wa) ++ Wb).length) c186) ((([] : List W2) ++ Wa) ++ Wb), Bk g8 [.string su2, .string bo2, .slice A1 qs.length c1] 24, Bk g2 [.string su, .string bo, .slice A0 ps.length c0] 24] := O191
   clear O191
   obtain ⟨O193, hFz194, hlz195, hbz196⟩ := parts_frz O192 1 rfl (relK_two hRa hRb)
   clear O192
   have hn_ := (relK_two hRa hRb).1
   rw [hn_] at hFz194 hlz195
   have O197 : Own w w189 [Bk g171 [.string (⟨#[]⟩ : ByteArray), .string (⟨#[]⟩ : ByteArray), .slice none 0 0] 24, Chunk.frz w189 S187, Bk g8 [.string su2, .string bo2, .slice A1 qs.length c1] 24, Bk g2 [.string su, .string bo, .slice A0 ps.length c0] 24] := O193
   clear O193
   have H198 := H190.conv (v' := .slice A185 ((ps ++ qs).length) c186) (congrArg (fun n_ => Value.slice A185 n_ c186) hn_)
   clear H190
   refine gx_on (i := 10) (B := (fun j_ => false)) (fun _ => (by exact O197.sel [2, 3] (by decide))) ?_
   refine gx_take 11 rfl (by kernel_rfl) H198 (by exact O197.sel [2, 3] (by decide)) (want_none rfl) rfl (by decide) (fun wq HO => (op_build (cells := #[.string su, .string bo, .slice A185 ((ps ++ qs).length) c186]) rfl (pt_cons (H198.ev rfl) (pt_cons (H198.ev rfl) (pt_cons (H198.ev rfl) pt_nil))) (by kernel_rfl))) ?_
   intro _ H200; clear H198
   refine gx_step 13 rfl (by kernel_rfl) ?_
   refine gw_setn 0 H200 O197 rfl (want_none rfl) rfl (op_storen gwsiz24 rfl (H200.ev rfl) (H200.ev rfl) (O197.get 0 rfl) rfl (by simp) (by simp [Value.oneCell'])) ?_
   intro _ w203 H202 O204; clear H200 O197
   refine gx_on (i := 13) (B := (fun j_ => false)) (fun _ => (by exact O204.sel [2, 3] (by decide))) ?_
   refine gx_done (by kernel_rfl) ?_
   refine gw_nx ⟨g171, A185, c186, w189, S187, (H202.pick (t := 5) rfl (H202.pick (t := 2) rfl (H202.pick (t := 3) rfl (H202.pick (t := 4) rfl H202.nil)))), O204.sel [0, 1, 2, 3] (by decide), ?_, ?_, ?_⟩
   ·
    exact hbz196
   ·
    exact hFz194
   exact hlz195
  refine gw_new H103 O87 (want_none rfl) rfl (by decide) (op_alloc gwzer24 rfl) ?_
  intro g205 _ w207 H208 O209; clear H103 O87
  have O210 : Own w w207 [Bk g205 [.string (⟨#[]⟩ : ByteArray), .string (⟨#[]⟩ : ByteArray), .slice none 0 0] 24, Bk g8 [.string su2, .string bo2, .slice A1 qs.length c1] 24, Bk g2 [.string su, .string bo, .slice A0 ps.length c0] 24] := O209
  clear O209
  refine gx_on (i := 12) (B := (fun j_ => false)) (fun _ => (by exact O210.sel [1, 2] (by decide))) ?_
  refine gx_step 4 rfl (by kernel_rfl) ?_
  refine gw_rlit0 kW (e := 46) H208 O210 (want_none rfl) rfl (by decide) (op_bslice (by kernel_rfl) rfl pt_nil) ?_
  intro A211 S212 _ w214 H215 O216; clear H208 O210
  have O217 : Own w w214 [Chunk.row kW 46 w.heap.size S212 (.slice A211 (([] : List W2).length) 0) ([] : List W2), Bk g205 [.string (⟨#[]⟩ : ByteArray), .string (⟨#[]⟩ : ByteArray), .slice none 0 0] 24, Bk g8 [.string su2, .string bo2, .slice A1 qs.length c1] 24, Bk g2 [.string su, .string bo, .slice A0 ps.length c0] 24] := O216
  clear O216
  refine gx_on (i := 4) (B := (fun j_ => false)) (fun _ => (by exact O217.sel [2, 3] (by decide))) ?_
  refine gx_step 7 rfl (by kernel_rfl) ?_
  refine gw_append kW 0 H215 O217 (want_none rfl) rfl (by decide) rfl Tryd.underlying22 gwinfo46 rfl (by decide) (by decide) rfl (H215.ev rfl) (H215.ev rfl) (Kd.C_below hWa O217.below) (fun _ _ h_ => (flatW.M _ _ _ _ _).2 (flatW.K _ _ _ h_)) O217.below.size (by rw [List.length_nil]; omega) ?_
  intro A218 c219 S220 _ w222 H223 O224; clear H215 O217
  have O225 : Own w w222 [Chunk.row kW 46 w.heap.size S220 (.slice A218 ((([] : List W2) ++ Wa).length) c219) (([] : List W2) ++ Wa), Bk g205 [.string (⟨#[]⟩ : ByteArray), .string (⟨#[]⟩ : ByteArray), .slice none 0 0] 24, Bk g8 [.string su2, .string bo2, .slice A1 qs.length c1] 24, Bk g2 [.string su, .string bo, .slice A0 ps.length c0] 24] := O224
  clear O224
  refine gx_on (i := 7) (B := (fun j_ => false)) (fun _ => (by exact O225.sel [2, 3] (by decide))) ?_
  refine gx_step 10 rfl (by kernel_rfl) ?_
  refine gw_append kW 0 H223 O225 (want_none rfl) rfl (by decide) rfl Tryd.underlying22 gwinfo46 rfl (by decide) (by decide) rfl (H223.ev rfl) (H223.ev rfl) (Kd.C_below hWb O225.below) (fun _ _ h_ => (flatW.M _ _ _ _ _).2 (flatW.K _ _ _ h_)) O225.below.size (by rw [List.length_append, List.length_nil]; omega) ?_
  intro A226 c227 S228 _ w230 H231 O232; clear H223 O225
  have O233 : Own w w230 [Chunk.row kW 46 w.heap.size S228 (.slice A226 (((([] : List W2) ++ Wa) ++ Wb).length) c227) ((([] : List W2) ++ Wa) ++ Wb), Bk g205 [.string (⟨#[]⟩ : ByteArray), .string (⟨#[]⟩ : ByteArray), .slice none 0 0] 24, Bk g8 [.string su2, .string bo2, .slice A1 qs.length c1] 24, Bk g2 [.string su, .string bo, .slice A0 ps.length c0] 24] := O232
  clear O232
  obtain ⟨O234, hFz235, hlz236, hbz237⟩ := parts_frz O233 0 rfl (relK_two hRa hRb)
  clear O233
  have hn_ := (relK_two hRa hRb).1
  rw [hn_] at hFz235 hlz236
  have O238 : Own w w230 [Chunk.frz w230 S228, Bk g205 [.string (⟨#[]⟩ : ByteArray), .string (⟨#[]⟩ : ByteArray), .slice none 0 0] 24, Bk g8 [.string su2, .string bo2, .slice A1 qs.length c1] 24, Bk g2 [.string su, .string bo, .slice A0 ps.length c0] 24] := O234
  clear O234
  have H239 := H231.conv (v' := .slice A226 ((ps ++ qs).length) c227) (congrArg (fun n_ => Value.slice A226 n_ c227) hn_)
  clear H231
  refine gx_on (i := 10) (B := (fun j_ => false)) (fun _ => (by exact O238.sel [2, 3] (by decide))) ?_
  refine gx_take 11 rfl (by kernel_rfl) H239 (by exact O238.sel [2, 3] (by decide)) (want_none rfl) rfl (by decide) (fun wq HO => (op_build (cells := #[.string su, .string bo, .slice A226 ((ps ++ qs).length) c227]) rfl (pt_cons (H239.ev rfl) (pt_cons (H239.ev rfl) (pt_cons (H239.ev rfl) pt_nil))) (by kernel_rfl))) ?_
  intro _ H241; clear H239
  refine gx_step 13 rfl (by kernel_rfl) ?_
  refine gw_setn 1 H241 O238 rfl (want_none rfl) rfl (op_storen gwsiz24 rfl (H241.ev rfl) (H241.ev rfl) (O238.get 1 rfl) rfl (by simp) (by simp [Value.oneCell'])) ?_
  intro _ w244 H243 O245; clear H241 O238
  refine gx_on (i := 13) (B := (fun j_ => false)) (fun _ => (by exact O245.sel [2, 3] (by decide))) ?_
  refine gx_done (by kernel_rfl) ?_
  refine gw_nx ⟨g205, A226, c227, w230, S228, (H243.pick (t := 5) rfl (H243.pick (t := 2) rfl (H243.pick (t := 3) rfl (H243.pick (t := 4) rfl H243.nil)))), O245.sel [1, 0, 2, 3] (by decide), ?_, ?_, ?_⟩
  ·
   exact hbz237
  ·
   exact hFz235
  exact hlz236
 rintro _ w247 ⟨gq, Aq, cq, wq, Sq, H248, O249, hbq, hFq, hlq⟩
 refine gR fun K250 hK250 => ?_
 refine V H248 (op_loadn gwagg24 gwsiz24 rfl (H248.ev rfl) (O249.get 0 rfl) rfl rfl) fun _ H252 => ?_
 clear H248
 refine Wk H252 Tryd.func16 rfl (ar_cons (H252.ev rfl) ar_nil) (text_calls su bo Aq cq (ps ++ qs) _ (frz_C (i := 1) O249 rfl hbq hFq) hlq (by omega) (hL.own O249) hzz) ?_
 rintro e253 w254 ⟨rfl, hb255⟩
 refine ⟨_, rfl, fun _ H257 => ?_⟩
 have O258 := O249.after hb255
 clear H252 O249 hb255
 have O274 : Own w _ [(Chunk.all [Bk gq [.string su, .string bo, .slice Aq ((ps ++ qs).length) cq] 24, Chunk.frz wq Sq, Bk g8 [.string su2, .string bo2, .slice A1 qs.length c1] 24, Bk g2 [.string su, .string bo, .slice A0 ps.length c0] 24])] := Own.bundle (O258.sel [0, 1, 2, 3] (by decide))
 refine Wk H257 Tryd.func18 rfl (ar_cons (H257.ev rfl) ar_nil) (parse_told w _ (Chunk.all [Bk gq [.string su, .string bo, .slice Aq ((ps ++ qs).length) cq] 24, Chunk.frz wq Sq, Bk g8 [.string su2, .string bo2, .slice A1 qs.length c1] 24, Bk g2 [.string su, .string bo, .slice A0 ps.length c0] 24]) (textL su bo (ps ++ qs)) su bo (ps ++ qs) 0 0 (told_yes (parse_text _ _ _ hyy)) (by have h_ := text_size su bo (ps ++ qs) (by omega); omega) hL O274) ?_
 rintro e268 w269 ⟨A260, c261, wz262, S263, rfl, hb270, hbz264, hFz265, hlz266⟩
 refine ⟨_, rfl, fun _ H272 => ?_⟩
 have O273 : Own w w269 [Bk gq [.string su, .string bo, .slice Aq ((ps ++ qs).length) cq] 24, Chunk.frz wq Sq, Bk g8 [.string su2, .string bo2, .slice A1 qs.length c1] 24, Bk g2 [.string su, .string bo, .slice A0 ps.length c0] 24, Chunk.frz wz262 S263] := Own.unbundle (hb270.sel [1, 0] (by decide))
 clear O274
 clear H257 O258 hb270
 refine Vm H272 fun _ H277 => ?_
 refine Vx H277 fun _ H279 => ?_
 refine Vx H279 fun _ H281 => ?_
 refine Vx H281 fun _ H283 => ?_
 clear H272 H277 H279 H281
 refine gw_new H283 O273 (want_none rfl) rfl (by decide) (op_alloc gwzer24 rfl) ?_
 intro g284 _ w286 H287 O288; clear H283 O273
 have O289 : Own w w286 [Bk g284 [.string (⟨#[]⟩ : ByteArray), .string (⟨#[]⟩ : ByteArray), .slice none 0 0] 24, Bk gq [.string su, .string bo, .slice Aq ((ps ++ qs).length) cq] 24, Chunk.frz wq Sq, Bk g8 [.string su2, .string bo2, .slice A1 qs.length c1] 24, Bk g2 [.string su, .string bo, .slice A0 ps.length c0] 24, Chunk.frz wz262 S263] := O288
 clear O288
 refine gw_setn 0 H287 O289 rfl (want_none rfl) rfl (op_storen gwsiz24 rfl (H287.ev rfl) (H287.ev rfl) (O289.get 0 rfl) rfl (by simp) (by simp [Value.oneCell'])) ?_
 intro _ w292 H291 O293; clear H287 O289
 refine Va H291 fun _ H295 => ?_
 refine Va H295 fun _ H297 => ?_
 refine gE hK250 ?_
 refine gw_seq fun K298 hK298 => ?_
 refine gR fun K299 hK299 => ?_
 refine Vm H297 fun _ H301 => ?_
 refine V H301 (op_nei rfl (H301.ev rfl) (ev_c _ _)) fun _ H303 => ?_
 clear H291 H295 H297 H301
 have H304 := H303.lit (b := false) (by decide)
 clear H303
 refine Vm H304 fun _ H306 => ?_
 refine V2 H306 (want_yes H306 rfl rfl rfl rfl) (op_field (gwfld24_2 _ _) rfl (H306.ev rfl)) fun _ H308 => ?_
 refine V2 H308 (want_yes H308 rfl rfl rfl rfl) (op_load1 gwagg22 rfl (H308.ev rfl) (blk_at (O293.get 0 rfl) rfl)) fun _ H310 => ?_
 refine V2 H310 (want_yes H310 rfl rfl rfl rfl) (op_len Tryd.underlying22 rfl (H310.ev rfl)) fun _ H312 => ?_
 refine V2 H312 (want_yes H312 rfl rfl rfl rfl) (op_field (gwfld24_2 _ _) rfl (H312.ev rfl)) fun _ H314 => ?_
 refine V2 H314 (want_yes H314 rfl rfl rfl rfl) (op_load1 gwagg22 rfl (H314.ev rfl) (blk_at (O293.get 4 rfl) rfl)) fun _ H316 => ?_
 refine V2 H316 (want_yes H316 rfl rfl rfl rfl) (op_len Tryd.underlying22 rfl (H316.ev rfl)) fun _ H318 => ?_
 refine V2 H318 (want_yes H318 rfl rfl rfl rfl) (op_field (gwfld24_2 _ _) rfl (H318.ev rfl)) fun _ H320 => ?_
 clear H304 H306 H308 H310 H312 H314 H316 H318
 refine V2 H320 (want_yes H320 rfl rfl rfl rfl) (op_load1 gwagg22 rfl (H320.ev rfl) (blk_at (O293.get 3 rfl) rfl)) fun _ H322 => ?_
 refine V2 H322 (want_yes H322 rfl rfl rfl rfl) (op_len Tryd.underlying22 rfl (H322.ev rfl)) fun _ H324 => ?_
 refine V2 H324 (want_yes H324 rfl rfl rfl rfl) (op_add rfl (H324.ev rfl) (H324.ev rfl) (by omega)) fun _ H326 => ?_
 refine V2 H326 (want_yes H326 rfl rfl rfl rfl) (op_nei rfl (H326.ev rfl) (H326.ev rfl)) fun _ H328 => ?_
 clear H320 H322 H324 H326
 have H329 := H328.lit (b := false) (by simp)
 clear H328
 refine V H329 (op_pick_f rfl (H329.ev rfl) (H329.ev rfl)) fun _ H331 => ?_
 refine gE hK299 ?_
 clear H329
 refine gw_cond H331 rfl (fun hb332 => ?_) (fun hb332 => ?_)
 ·
  cases hb332
 refine gS hK298 ?_
 refine gw_seq fun K333 hK333 => ?_
 refine gR fun K334 hK334 => ?_
 refine Vf H331 (gwfld24_2 _ _) fun _ H336 => ?_
 refine Vl H336 gwagg22 (O293.get 0 rfl) fun _ H338 => ?_
 refine V H338 (op_len Tryd.underlying22 rfl (H338.ev rfl)) fun _ H340 => ?_
 refine V H340 (op_move rfl (ev_c _ _)) fun _ H342 => ?_
 refine gE hK334 ?_
 clear H331 H336 H338 H340
 refine wp_block ?_
 refine gw_loop (fun m_ a_ w_ => ∃ (i : Int), Fr 134 a_ [(73, J i), (5, .pointer (some ⟨gq, 0, none⟩)), (2, .pointer (some ⟨g2, 0, none⟩)), (3, .pointer (some ⟨g8, 0, none⟩)), (71, .slice A260 ((ps ++ qs).length) c261), (72, J (((ps ++ qs).length) : Int))] ∧ Own w w_ [Bk g284 [.string su, .string bo, .slice A260 ((ps ++ qs).length) c261] 24, Bk gq [.string su, .string bo, .slice Aq ((ps ++ qs).length) cq] 24, Chunk.frz wq Sq, Bk g8 [.string su2, .string bo2, .slice A1 qs.length c1] 24, Bk g2 [.string su, .string bo, .slice A0 ps.length c0] 24, Chunk.frz wz262 S263] ∧ (0 ≤ i ∧ i ≤ (ps ++ qs).length) ∧ m_ = ((ps ++ qs).length - i.toNat)) (((ps ++ qs).length - (0 : Int).toNat)) ?_ ?_
 ·
  refine ⟨0, (H342.pick (t := 73) rfl (H342.pick (t := 5) rfl (H342.pick (t := 2) rfl (H342.pick (t := 3) rfl (H342.pick (t := 71) rfl (H342.pick (t := 72) rfl H342.nil)))))), O293.sel [0, 1, 2, 3, 4, 5] (by decide), ?_, rfl⟩
  omega
 rintro m344 _ w346 ⟨i, H347, O348, hi, hm349⟩
 refine gR fun K350 hK350 => ?_
 refine V H347 (op_lss rfl (H347.ev rfl) (H347.ev rfl)) fun _ H352 => ?_
 refine gE hK350 ?_
 refine gw_seq fun K353 hK353 => ?_
 clear H347
 refine gw_cond H352 rfl (fun hb354 => ?_) (fun hb354 => ?_)
 ·
  have H355 := H352.subst_ (d := 74) (b := true) rfl hb354
  clear H352
  (try simp only [decide_eq_true_eq] at hb354)
  refine gS hK353 ?_
  refine gw_seq fun K356 hK356 => ?_
  refine wp_block ?_
  refine gR fun K357 hK357 => ?_
  refine Vm H355 fun _ H359 => ?_
  clear H355
  obtain ⟨ad360, cs363, hA361, hl364, hK365, hc362, hin366⟩ := Kd.F_get hFz265 z46 i (by omega) (by omega)
  obtain ⟨A367, c368, rfl, hl369, hC370⟩ := k46_openF hK365
  clear hl364
  refine V H359 (op_index Tryd.underlying22 gwsiz46 rfl (H359.ev rfl) (H359.ev rfl) hA361 (⟨by omega, by omega⟩)) fun _ H372 => ?_
  refine V H372 (op_loadc gwagg46 gwsiz46 rfl (H372.ev rfl) rfl ((frz_cells (i := 5) O348 rfl hbz264 (hin366 (by decide)) hc362))) fun _ H374 => ?_
  clear H359 H372
  refine gw_new H374 O348 (want_none rfl) rfl (by decide) (op_alloc gwzer46 rfl) ?_
  intro g375 _ w377 H378 O379; clear H374 O348
  have O380 : Own w w377 [Bk g375 [.string (⟨#[]⟩ : ByteArray), .slice none 0 0] 46, Bk g284 [.string su, .string bo, .slice A260 ((ps ++ qs).length) c261] 24, Bk gq [.string su, .string bo, .slice Aq ((ps ++ qs).length) cq] 24, Chunk.frz wq Sq, Bk g8 [.string su2, .string bo2, .slice A1 qs.length c1] 24, Bk g2 [.string su, .string bo, .slice A0 ps.length c0] 24, Chunk.frz wz262 S263] := O379
  clear O379
  refine Va H378 fun _ H382 => ?_
  clear H378
  refine gw_setn 0 H382 O380 rfl (want_none rfl) rfl (op_storen gwsiz46 rfl (H382.ev rfl) (H382.ev rfl) (O380.get 0 rfl) rfl (by simp) (by simp [Value.oneCell'])) ?_
  intro _ w385 H384 O386; clear H382 O380
  refine gE hK357 ?_
  refine gR fun K387 hK387 => ?_
  refine V H384 (op_build (cells := #[.string (⟨#[]⟩ : ByteArray), .slice none 0 0]) rfl pt_nil (by kernel_rfl)) fun _ H389 => ?_
  clear H384
  refine gw_new H389 O386 (want_none rfl) rfl (by decide) (op_alloc gwzer46 rfl) ?_
  intro g390 _ w392 H393 O394; clear H389 O386
  have O395 : Own w w392 [Bk g390 [.string (⟨#[]⟩ : ByteArray), .slice none 0 0] 46, Bk g375 [.string (((ps ++ qs).getD i.toNat z46).f0), .slice A367 (((ps ++ qs).getD i.toNat z46).f1.length) c368] 46, Bk g284 [.string su, .string bo, .slice A260 ((ps ++ qs).length) c261] 24, Bk gq [.string su, .string bo, .slice Aq ((ps ++ qs).length) cq] 24, Chunk.frz wq Sq, Bk g8 [.string su2, .string bo2, .slice A1 qs.length c1] 24, Bk g2 [.string su, .string bo, .slice A0 ps.length c0] 24, Chunk.frz wz262 S263] := O394
  clear O394
  refine gw_setn 0 H393 O395 rfl (want_none rfl) rfl (op_storen gwsiz46 rfl (H393.ev rfl) (H393.ev rfl) (O395.get 0 rfl) rfl (by simp) (by simp [Value.oneCell'])) ?_
  intro _ w398 H397 O399; clear H393 O395
  refine gE hK387 ?_
  refine gw_seq fun K400 hK400 => ?_
  refine gR fun K401 hK401 => ?_
  refine Vm H397 fun _ H403 => ?_
  refine Vf H403 (gwfld24_2 _ _) fun _ H405 => ?_
  refine Vl H405 gwagg22 (O399.get 6 rfl) fun _ H407 => ?_
  refine V H407 (op_len Tryd.underlying22 rfl (H407.ev rfl)) fun _ H409 => ?_
  refine V H409 (op_lss rfl (H409.ev rfl) (H409.ev rfl)) fun _ H411 => ?_
  refine gE hK401 ?_
  clear H397 H403 H405 H407 H409
  refine gw_cond H411 rfl (fun hb412 => ?_) (fun hb412 => ?_)
  ·
   have H413 := H411.subst_ (d := 83) (b := true) rfl hb412
   clear H411
   (try simp only [decide_eq_true_eq] at hb412)
   have hlt := hb412
   refine wp_region_lit ?_
   refine Vf H413 (gwfld24_2 _ _) fun _ H415 => ?_
   refine Vl H415 gwagg22 (O399.get 6 rfl) fun _ H417 => ?_
   refine Vm H417 fun _ H419 => ?_
   clear H413 H415 H417
   obtain ⟨ad420, cs423, hA421, hl424, hK425, hc422⟩ := Kd.C_get hr z46 i (by omega) (by omega)
   obtain ⟨A426, c427, rfl, hl428, hC429⟩ := k46_open hK425
   clear hl424
   refine V H419 (op_index Tryd.underlying22 gwsiz46 rfl (H419.ev rfl) (H419.ev rfl) hA421 (⟨by omega, by omega⟩)) fun _ H431 => ?_
   refine V H431 (op_loadc gwagg46 gwsiz46 rfl (H431.ev rfl) rfl (cells0 O399 hc422)) fun _ H433 => ?_
   clear H419 H431
   refine gw_setn 0 H433 O399 rfl (want_none rfl) rfl (op_storen gwsiz46 rfl (H433.ev rfl) (H433.ev rfl) (O399.get 0 rfl) rfl (by simp) (by simp [Value.oneCell'])) ?_
   intro _ w436 H435 O437; clear H433 O399
   refine gE hK400 ?_
   refine gR fun K438 hK438 => ?_
   refine Vf H435 (gwfld46_0 _ _) fun _ H440 => ?_
   refine Vl H440 gwagg9 (O437.get 1 rfl) fun _ H442 => ?_
   refine Vf H442 (gwfld46_0 _ _) fun _ H444 => ?_
   refine Vl H444 gwagg9 (O437.get 0 rfl) fun _ H446 => ?_
   refine V H446 (op_nes rfl (H446.ev rfl) (H446.ev rfl)) fun _ H448 => ?_
   clear H435 H440 H442 H444 H446
   have H449 := H448.lit (b := false) (by rw [getD_app_l i (by omega) (by omega)]; simp)
   clear H448
   refine Vm H449 fun _ H451 => ?_
   refine V2 H451 (want_yes H451 rfl rfl rfl rfl) (op_field (gwfld46_1 _ _) rfl (H451.ev rfl)) fun _ H453 => ?_
   refine V2 H453 (want_yes H453 rfl rfl rfl rfl) (op_load1 gwagg44 rfl (H453.ev rfl) (blk_at (O437.get 1 rfl) rfl)) fun _ H455 => ?_
   refine V2 H455 (want_yes H455 rfl rfl rfl rfl) (op_len Tryd.underlying44 rfl (H455.ev rfl)) fun _ H457 => ?_
   refine V2 H457 (want_yes H457 rfl rfl rfl rfl) (op_field (gwfld46_1 _ _) rfl (H457.ev rfl)) fun _ H459 => ?_
   refine V2 H459 (want_yes H459 rfl rfl rfl rfl) (op_load1 gwagg44 rfl (H459.ev rfl) (blk_at (O437.get 0 rfl) rfl)) fun _ H461 => ?_
   refine V2 H461 (want_yes H461 rfl rfl rfl rfl) (op_len Tryd.underlying44 rfl (H461.ev rfl)) fun _ H463 => ?_
   refine V2 H463 (want_yes H463 rfl rfl rfl rfl) (op_nei rfl (H463.ev rfl) (H463.ev rfl)) fun _ H465 => ?_
   clear H449 H451 H453 H455 H457 H459 H461 H463
   have H466 := H465.lit (b := false) (by rw [getD_app_l i (by omega) (by omega)]; simp)
   clear H465
   refine V H466 (op_pick_f rfl (H466.ev rfl) (H466.ev rfl)) fun _ H468 => ?_
   refine gE hK438 ?_
   clear H466
   refine gw_cond H468 rfl (fun hb469 => ?_) (fun hb469 => ?_)
   ·
    cases hb469
   refine wp_skip ?_
   refine gw_blk ?_
   refine gw_nx (hK356 _ _ ?_)
   refine wp_region_lit ?_
   refine V H468 (op_add rfl (H468.ev rfl) (ev_c _ _) (by omega)) fun _ H471 => ?_
   refine Vm H471 fun _ H473 => ?_
   clear H468 H471
   refine wpList_nil ?_
   refine gw_nx ⟨_, ?_, i + 1, (H473.pick (t := 73) rfl (H473.pick (t := 5) rfl (H473.pick (t := 2) rfl (H473.pick (t := 3) rfl (H473.pick (t := 71) rfl (H473.pick (t := 72) rfl H473.nil)))))), O437.sel [2, 3, 4, 5, 6, 7] (by decide), ?_, rfl⟩
   ·
    rw [hm349]; omega
   omega
  have H474 := H411.subst_ (d := 83) (b := false) rfl hb412
  clear H411
  (try simp only [decide_eq_false_iff_not, Int.not_lt] at hb412)
  have hlt := hb412
  refine wp_region_lit ?_
  refine Vf H474 (gwfld24_2 _ _) fun _ H476 => ?_
  refine Vl H476 gwagg22 (O399.get 5 rfl) fun _ H478 => ?_
  refine Vm H478 fun _ H480 => ?_
  refine Vf H480 (gwfld24_2 _ _) fun _ H482 => ?_
  refine Vl H482 gwagg22 (O399.get 6 rfl) fun _ H484 => ?_
  refine V H484 (op_len Tryd.underlying22 rfl (H484.ev rfl)) fun _ H486 => ?_
  refine V H486 (op_sub rfl (H486.ev rfl) (H486.ev rfl) (by omega)) fun _ H488 => ?_
  clear H474 H476 H478 H480 H482 H484 H486
  obtain ⟨ad489, cs492, hA490, hl493, hK494, hc491⟩ := Kd.C_get hr1 z46 (i - (ps.length : Int)) (by omega) (by omega)
  obtain ⟨A495, c496, rfl, hl497, hC498⟩ := k46_open hK494
  clear hl493
  refine V H488 (op_index Tryd.underlying22 gwsiz46 rfl (H488.ev rfl) (H488.ev rfl) hA490 (⟨by omega, by omega⟩)) fun _ H500 => ?_
  refine V H500 (op_loadc gwagg46 gwsiz46 rfl (H500.ev rfl) rfl (cells0 O399 hc491)) fun _ H502 => ?_
  clear H488 H500
  refine gw_setn 0 H502 O399 rfl (want_none rfl) rfl (op_storen gwsiz46 rfl (H502.ev rfl) (H502.ev rfl) (O399.get 0 rfl) rfl (by simp) (by simp [Value.oneCell'])) ?_
  intro _ w505 H504 O506; clear H502 O399
  refine gE hK400 ?_
  refine gR fun K507 hK507 => ?_
  refine Vf H504 (gwfld46_0 _ _) fun _ H509 => ?_
  refine Vl H509 gwagg9 (O506.get 1 rfl) fun _ H511 => ?_
  refine Vf H511 (gwfld46_0 _ _) fun _ H513 => ?_
  refine Vl H513 gwagg9 (O506.get 0 rfl) fun _ H515 => ?_
  refine V H515 (op_nes rfl (H515.ev rfl) (H515.ev rfl)) fun _ H517 => ?_
  clear H504 H509 H511 H513 H515
  have H518 := H517.lit (b := false) (by rw [getD_app_r i (by omega) (by omega)]; simp)
  clear H517
  refine Vm H518 fun _ H520 => ?_
  refine V2 H520 (want_yes H520 rfl rfl rfl rfl) (op_field (gwfld46_1 _ _) rfl (H520.ev rfl)) fun _ H522 => ?_
  refine V2 H522 (want_yes H522 rfl rfl rfl rfl) (op_load1 gwagg44 rfl (H522.ev rfl) (blk_at (O506.get 1 rfl) rfl)) fun _ H524 => ?_
  refine V2 H524 (want_yes H524 rfl rfl rfl rfl) (op_len Tryd.underlying44 rfl (H524.ev rfl)) fun _ H526 => ?_
  refine V2 H526 (want_yes H526 rfl rfl rfl rfl) (op_field (gwfld46_1 _ _) rfl (H526.ev rfl)) fun _ H528 => ?_
  refine V2 H528 (want_yes H528 rfl rfl rfl rfl) (op_load1 gwagg44 rfl (H528.ev rfl) (blk_at (O506.get 0 rfl) rfl)) fun _ H530 => ?_
  refine V2 H530 (want_yes H530 rfl rfl rfl rfl) (op_len Tryd.underlying44 rfl (H530.ev rfl)) fun _ H532 => ?_
  refine V2 H532 (want_yes H532 rfl rfl rfl rfl) (op_nei rfl (H532.ev rfl) (H532.ev rfl)) fun _ H534 => ?_
  clear H518 H520 H522 H524 H526 H528 H530 H532
  have H535 := H534.lit (b := false) (by rw [getD_app_r i (by omega) (by omega)]; simp)
  clear H534
  refine V H535 (op_pick_f rfl (H535.ev rfl) (H535.ev rfl)) fun _ H537 => ?_
  refine gE hK507 ?_
  clear H535
  refine gw_cond H537 rfl (fun hb538 => ?_) (fun hb538 => ?_)
  ·
   cases hb538
  refine wp_skip ?_
  refine gw_blk ?_
  refine gw_nx (hK356 _ _ ?_)
  refine wp_region_lit ?_
  refine V H537 (op_add rfl (H537.ev rfl) (ev_c _ _) (by omega)) fun _ H540 => ?_
  refine Vm H540 fun _ H542 => ?_
  clear H537 H540
  refine wpList_nil ?_
  refine gw_nx ⟨_, ?_, i + 1, (H542.pick (t := 73) rfl (H542.pick (t := 5) rfl (H542.pick (t := 2) rfl (H542.pick (t := 3) rfl (H542.pick (t := 71) rfl (H542.pick (t := 72) rfl H542.nil)))))), O506.sel [2, 3, 4, 5, 6, 7] (by decide), ?_, rfl⟩
  ·
   rw [hm349]; omega
  omega
 have H543 := H352.subst_ (d := 74) (b := false) rfl hb354
 clear H352
 (try simp only [decide_eq_false_iff_not, Int.not_lt] at hb354)
 refine wp_exit ?_
 refine gw_thx ?_
 refine gw_thx ?_
 refine gw_in ?_
 refine gw_nx (hK333 _ _ ?_)
 refine gw_seq fun K544 hK544 => ?_
 refine gx_draw (M := [Bk g284 [.string su, .string bo, .slice A260 ((ps ++ qs).length) c261] 24, Bk gq [.string su, .string bo, .slice Aq ((ps ++ qs).length) cq] 24, Chunk.frz wq Sq, Bk g8 [.string su2, .string bo2, .slice A1 qs.length c1] 24, Bk g2 [.string su, .string bo, .slice A0 ps.length c0] 24, Chunk.frz wz262 S263]) (fun j_ => false) O348 (by kernel_rfl) fun w545 O546 => ?_
 clear O348
 refine gx_take 0 rfl (by kernel_rfl) H543 (by exact O546.sel [0, 1, 2, 3, 4, 5] (by decide)) (want_none rfl) rfl (by decide) (fun wq HO => (op_loadn gwagg24 gwsiz24 rfl (H543.ev rfl) (HO.get 4 rfl) rfl rfl)) ?_
 intro _ H548; clear H543
 refine gx_take 2 rfl (by kernel_rfl) H548 (by exact O546.sel [0, 1, 2, 3, 4, 5] (by decide)) (want_none rfl) rfl (by decide) (fun wq HO => (op_loadn gwagg24 gwsiz24 rfl (H548.ev rfl) (HO.get 3 rfl) rfl rfl)) ?_
 intro _ H550; clear H548
 refine gx_take 4 rfl (by kernel_rfl) H550 (by exact O546.sel [0, 1, 2, 3, 4, 5] (by decide)) (want_none rfl) rfl (by decide) (fun wq HO => (op_loadn gwagg24 gwsiz24 rfl (H550.ev rfl) (HO.get 1 rfl) rfl rfl)) ?_
 intro _ H552; clear H550
 refine gx_cut (fun a_ w_ => ∃ g560 g566 g572 : Nat, Fr 134 a_ [(114, .agg #[J (totL ps 0), J (totL ps 1), J (totL ps 2), J (totL ps 3), J (totL ps 4), J (totL ps 5), J (totL ps 6), J (totL ps 7)]), (116, .agg #[J (totL qs 0), J (totL qs 1), J (totL qs 2), J (totL qs 3), J (totL qs 4), J (totL qs 5), J (totL qs 6), J (totL qs 7)]), (118, .agg #[J (totL (ps ++ qs) 0), J (totL (ps ++ qs) 1), J (totL (ps ++ qs) 2), J (totL (ps ++ qs) 3), J (totL (ps ++ qs) 4), J (totL (ps ++ qs) 5), J (totL (ps ++ qs) 6), J (totL (ps ++ qs) 7)]), (12, .pointer (some ⟨g560, 0, none⟩)), (13, .pointer (some ⟨g566, 0, none⟩)), (14, .pointer (some ⟨g572, 0, none⟩)), (5, .pointer (some ⟨gq, 0, none⟩)), (2, .pointer (some ⟨g2, 0, none⟩)), (3, .pointer (some ⟨g8, 0, none⟩)), (113, .agg #[.string su, .string bo, .slice A0 ps.length c0]), (115, .agg #[.string su2, .string bo2, .slice A1 qs.length c1]), (117, .agg #[.string su, .string bo, .slice Aq ((ps ++ qs).length) cq])] ∧ Own w w_ [Bk g560 [J 0, J 0, J 0, J 0, J 0, J 0, J 0, J 0] 31, Bk g566 [J 0, J 0, J 0, J 0, J 0, J 0, J 0, J 0] 31, Bk g572 [J 0, J 0, J 0, J 0, J 0, J 0, J 0, J 0] 31, Bk g284 [.string su, .string bo, .slice A260 ((ps ++ qs).length) c261] 24, Bk gq [.string su, .string bo, .slice Aq ((ps ++ qs).length) cq] 24, Chunk.frz wq Sq, Bk g8 [.string su2, .string bo2, .slice A1 qs.length c1] 24, Bk g2 [.string su, .string bo, .slice A0 ps.length c0] 24, Chunk.frz wz262 S263]) #[true, true, true, true, true, true, true, true, true, false, false, false] 3 ?_ fun J592 => ?_
 ·
  rintro _ w594 ⟨g560, g566, g572, H595, O596⟩
  refine gx_step 9 rfl (by kernel_rfl) ?_
  refine gw_setn 0 H595 O596 rfl (want_none rfl) rfl (op_storen gwsiz31 rfl (H595.ev rfl) (H595.ev rfl) (O596.get 0 rfl) rfl (by simp) (by simp [Value.oneCell'])) ?_
  intro _ w599 H598 O600; clear H595 O596
  refine gx_on (i := 9) (B := (fun j_ => false)) (fun _ => (by exact O600.sel [3, 4, 5, 6, 7, 8] (by decide))) ?_
  refine gx_step 10 rfl (by kernel_rfl) ?_
  refine gw_setn 1 H598 O600 rfl (want_none rfl) rfl (op_storen gwsiz31 rfl (H598.ev rfl) (H598.ev rfl) (O600.get 1 rfl) rfl (by simp) (by simp [Value.oneCell'])) ?_
  intro _ w603 H602 O604; clear H598 O600
  refine gx_on (i := 10) (B := (fun j_ => false)) (fun _ => (by exact O604.sel [3, 4, 5, 6, 7, 8] (by decide))) ?_
  refine gx_step 11 rfl (by kernel_rfl) ?_
  refine gw_setn 2 H602 O604 rfl (want_none rfl) rfl (op_storen gwsiz31 rfl (H602.ev rfl) (H602.ev rfl) (O604.get 2 rfl) rfl (by simp) (by simp [Value.oneCell'])) ?_
  intro _ w607 H606 O608; clear H602 O604
  have O609 : Own w w607 [Bk g560 [J (totL ps 0), J (totL ps 1), J (totL ps 2), J (totL ps 3), J (totL ps 4), J (totL ps 5), J (totL ps 6), J (totL ps 7)] 31, Bk g566 [J (totL qs 0), J (totL qs 1), J (totL qs 2), J (totL qs 3), J (totL qs 4), J (totL qs 5), J (totL qs 6), J (totL qs 7)] 31, Bk g572 [J (totL (ps ++ qs) 0), J (totL (ps ++ qs) 1), J (totL (ps ++ qs) 2), J (totL (ps ++ qs) 3), J (totL (ps ++ qs) 4), J (totL (ps ++ qs) 5), J (totL (ps ++ qs) 6), J (totL (ps ++ qs) 7)] 31, Bk g284 [.string su, .string bo, .slice A260 ((ps ++ qs).length) c261] 24, Bk gq [.string su, .string bo, .slice Aq ((ps ++ qs).length) cq] 24, Chunk.frz wq Sq, Bk g8 [.string su2, .string bo2, .slice A1 qs.length c1] 24, Bk g2 [.string su, .string bo, .slice A0 ps.length c0] 24, Chunk.frz wz262 S263] := O608
  clear O608
  refine gx_on (i := 11) (B := (fun j_ => false)) (fun _ => (by exact O609.sel [3, 4, 5, 6, 7, 8] (by decide))) ?_
  refine gx_done (by kernel_rfl) ?_
  refine gw_nx (hK544 _ _ ?_)
  refine gw_seq fun K610 hK610 => ?_
  refine gR fun K611 hK611 => ?_
  refine V H606 (op_move rfl (ev_c _ _)) fun _ H613 => ?_
  refine gE hK611 ?_
  clear H606
  refine wp_block ?_
  refine gw_loop (fun m_ a_ w_ => ∃ (v : Int), Fr 134 a_ [(119, J v), (12, .pointer (some ⟨g560, 0, none⟩)), (13, .pointer (some ⟨g566, 0, none⟩)), (14, .pointer (some ⟨g572, 0, none⟩))] ∧ Own w w_ [Bk g560 [J (totL ps 0), J (totL ps 1), J (totL ps 2), J (totL ps 3), J (totL ps 4), J (totL ps 5), J (totL ps 6), J (totL ps 7)] 31, Bk g566 [J (totL qs 0), J (totL qs 1), J (totL qs 2), J (totL qs 3), J (totL qs 4), J (totL qs 5), J (totL qs 6), J (totL qs 7)] 31, Bk g572 [J (totL (ps ++ qs) 0), J (totL (ps ++ qs) 1), J (totL (ps ++ qs) 2), J (totL (ps ++ qs) 3), J (totL (ps ++ qs) 4), J (totL (ps ++ qs) 5), J (totL (ps ++ qs) 6), J (totL (ps ++ qs) 7)] 31, Bk g284 [.string su, .string bo, .slice A260 ((ps ++ qs).length) c261] 24, Bk gq [.string su, .string bo, .slice Aq ((ps ++ qs).length) cq] 24, Chunk.frz wq Sq, Bk g8 [.string su2, .string bo2, .slice A1 qs.length c1] 24, Bk g2 [.string su, .string bo, .slice A0 ps.length c0] 24, Chunk.frz wz262 S263] ∧ (0 ≤ v ∧ v ≤ 8) ∧ m_ = (8 - v.toNat)) ((8 - (0 : Int).toNat)) ?_ ?_
  ·
   refine ⟨0, (H613.pick (t := 119) rfl (H613.pick (t := 12) rfl (H613.pick (t := 13) rfl (H613.pick (t := 14) rfl H613.nil)))), O609.sel [0, 1, 2, 3, 4, 5, 6, 7, 8] (by decide), ?_, rfl⟩
   omega
  rintro m615 _ w617 ⟨v, H618, O619, hv, hm620⟩
  rcases (show v = 0 ∨ v = 1 ∨ v = 2 ∨ v = 3 ∨ v = 4 ∨ v = 5 ∨ v = 6 ∨ v = 7 ∨ v = 8 from by omega) with rfl | rfl | rfl | rfl | rfl | rfl | rfl | rfl | rfl
  ·
   refine gR fun K621 hK621 => ?_
   refine V H618 (op_lss rfl (H618.ev rfl) (ev_c _ _)) fun _ H623 => ?_
   clear H618
   have H624 := H623.lit (b := true) (by decide)
   clear H623
   refine gE hK621 ?_
   refine gw_seq fun K625 hK625 => ?_
   refine gw_cond H624 rfl (fun hb626 => ?_) (fun hb626 => ?_)
   rotate_left
   ·
    cases hb626
   refine gS hK625 ?_
   refine gw_seq fun K627 hK627 => ?_
   refine wp_block ?_
   refine gR fun K628 hK628 => ?_
   refine Vm H624 fun _ H630 => ?_
   refine Va H630 fun _ H632 => ?_
   refine gE hK628 ?_
   refine gw_seq fun K633 hK633 => ?_
   clear H624 H630
   refine gw_drawB O619 (by kernel_rfl) (by kernel_rfl) fun w634 O635 => ?_
   clear O619
   refine Vn H632 (op_move rfl (H632.ev rfl)) fun _ H637 => ?_
   refine Vn H637 (op_indexP (q := 0) Tryd.underlying31 gwsiz3 rfl (H637.ev rfl) (H637.ev rfl) (by decide) rfl) fun _ H639 => ?_
   refine Vq H639 (fun wq hq => have HO := O635.after hq; op_load1 gwagg3 rfl (H639.ev rfl) (blk_at (HO.get 2 rfl) rfl)) fun _ H641 => ?_
   refine Vn H641 (op_move rfl (H641.ev rfl)) fun _ H643 => ?_
   refine Vn H643 (op_indexP (q := 0) Tryd.underlying31 gwsiz3 rfl (H643.ev rfl) (H643.ev rfl) (by decide) rfl) fun _ H645 => ?_
   refine Vq H645 (fun wq hq => have HO := O635.after hq; op_load1 gwagg3 rfl (H645.ev rfl) (blk_at (HO.get 0 rfl) rfl)) fun _ H647 => ?_
   refine Vn H647 (op_move rfl (H647.ev rfl)) fun _ H649 => ?_
   refine Vn H649 (op_indexP (q := 0) Tryd.underlying31 gwsiz3 rfl (H649.ev rfl) (H649.ev rfl) (by decide) rfl) fun _ H651 => ?_
   clear H632 H637 H639 H641 H643 H645 H647 H649
   refine Vq H651 (fun wq hq => have HO := O635.after hq; op_load1 gwagg3 rfl (H651.ev rfl) (blk_at (HO.get 1 rfl) rfl)) fun _ H653 => ?_
   refine Vn H653 (op_add rfl (H653.ev rfl) (H653.ev rfl) (by have h0_ := tot_b ps 0; have k0_ := tot_b qs 0; have h1_ := tot_b ps 1; have k1_ := tot_b qs 1; have h2_ := tot_b ps 2; have k2_ := tot_b qs 2; have h3_ := tot_b ps 3; have k3_ := tot_b qs 3; have h4_ := tot_b ps 4; have k4_ := tot_b qs 4; have h5_ := tot_b ps 5; have k5_ := tot_b qs 5; have h6_ := tot_b ps 6; have k6_ := tot_b qs 6; have h7_ := tot_b ps 7; have k7_ := tot_b qs 7; omega)) fun _ H655 => ?_
   refine Vn H655 (op_nei rfl (H655.ev rfl) (H655.ev rfl)) fun _ H657 => ?_
   clear H651 H653 H655
   have H658 := H657.lit (b := false) (by rw [tot_app]; simp)
   clear H657
   refine wpQuiet_nil ?_
   intro w659 hq
   have O660 := O635.after hq
   clear O635 hq
   refine gw_nx (hK633 _ _ ?_)
   refine gw_cond H658 rfl (fun hb661 => ?_) (fun hb661 => ?_)
   ·
    cases hb661
   refine wp_skip ?_
   refine gw_blk ?_
   refine gw_nx (hK627 _ _ ?_)
   refine wp_region_lit ?_
   refine V H658 (op_add rfl (H658.ev rfl) (ev_c _ _) (by omega)) fun _ H663 => ?_
   refine Vm H663 fun _ H665 => ?_
   clear H658 H663
   refine wpList_nil ?_
   refine gw_nx ⟨_, ?_, 0 + 1, (H665.pick (t := 119) rfl (H665.pick (t := 12) rfl (H665.pick (t := 13) rfl (H665.pick (t := 14) rfl H665.nil)))), O660.sel [0, 1, 2, 3, 4, 5, 6, 7, 8] (by decide), ?_, rfl⟩
   ·
    rw [hm620]; omega
   omega
  ·
   refine gR fun K666 hK666 => ?_
   refine V H618 (op_lss rfl (H618.ev rfl) (ev_c _ _)) fun _ H668 => ?_
   clear H618
   have H669 := H668.lit (b := true) (by decide)
   clear H668
   refine gE hK666 ?_
   refine gw_seq fun K670 hK670 => ?_
   refine gw_cond H669 rfl (fun hb671 => ?_) (fun hb671 => ?_)
   rotate_left
   ·
    cases hb671
   refine gS hK670 ?_
   refine gw_seq fun K672 hK672 => ?_
   refine wp_block ?_
   refine gR fun K673 hK673 => ?_
   refine Vm H669 fun _ H675 => ?_
   refine Va H675 fun _ H677 => ?_
   refine gE hK673 ?_
   refine gw_seq fun K678 hK678 => ?_
   clear H669 H675
   refine gw_drawB O619 (by kernel_rfl) (by kernel_rfl) fun w679 O680 => ?_
   clear O619
   refine Vn H677 (op_move rfl (H677.ev rfl)) fun _ H682 => ?_
   refine Vn H682 (op_indexP (q := 1) Tryd.underlying31 gwsiz3 rfl (H682.ev rfl) (H682.ev rfl) (by decide) rfl) fun _ H684 => ?_
   refine Vq H684 (fun wq hq => have HO := O680.after hq; op_load1 gwagg3 rfl (H684.ev rfl) (blk_at (HO.get 2 rfl) rfl)) fun _ H686 => ?_
   refine Vn H686 (op_move rfl (H686.ev rfl)) fun _ H688 => ?_
   refine Vn H688 (op_indexP (q := 1) Tryd.underlying31 gwsiz3 rfl (H688.ev rfl) (H688.ev rfl) (by decide) rfl) fun _ H690 => ?_
   refine Vq H690 (fun wq hq => have HO := O680.after hq; op_load1 gwagg3 rfl (H690.ev rfl) (blk_at (HO.get 0 rfl) rfl)) fun _ H692 => ?_
   refine Vn H692 (op_move rfl (H692.ev rfl)) fun _ H694 => ?_
   refine Vn H694 (op_indexP (q := 1) Tryd.underlying31 gwsiz3 rfl (H694.ev rfl) (H694.ev rfl) (by decide) rfl) fun _ H696 => ?_
   clear H677 H682 H684 H686 H688 H690 H692 H694
   refine Vq H696 (fun wq hq => have HO := O680.after hq; op_load1 gwagg3 rfl (H696.ev rfl) (blk_at (HO.get 1 rfl) rfl)) fun _ H698 => ?_
   refine Vn H698 (op_add rfl (H698.ev rfl) (H698.ev rfl) (by have h0_ := tot_b ps 0; have k0_ := tot_b qs 0; have h1_ := tot_b ps 1; have k1_ := tot_b qs 1; have h2_ := tot_b ps 2; have k2_ := tot_b qs 2; have h3_ := tot_b ps 3; have k3_ := tot_b qs 3; have h4_ := tot_b ps 4; have k4_ := tot_b qs 4; have h5_ := tot_b ps 5; have k5_ := tot_b qs 5; have h6_ := tot_b ps 6; have k6_ := tot_b qs 6; have h7_ := tot_b ps 7; have k7_ := tot_b qs 7; omega)) fun _ H700 => ?_
   refine Vn H700 (op_nei rfl (H700.ev rfl) (H700.ev rfl)) fun _ H702 => ?_
   clear H696 H698 H700
   have H703 := H702.lit (b := false) (by rw [tot_app]; simp)
   clear H702
   refine wpQuiet_nil ?_
   intro w704 hq
   have O705 := O680.after hq
   clear O680 hq
   refine gw_nx (hK678 _ _ ?_)
   refine gw_cond H703 rfl (fun hb706 => ?_) (fun hb706 => ?_)
   ·
    cases hb706
   refine wp_skip ?_
   refine gw_blk ?_
   refine gw_nx (hK672 _ _ ?_)
   refine wp_region_lit ?_
   refine V H703 (op_add rfl (H703.ev rfl) (ev_c _ _) (by omega)) fun _ H708 => ?_
   refine Vm H708 fun _ H710 => ?_
   clear H703 H708
   refine wpList_nil ?_
   refine gw_nx ⟨_, ?_, 1 + 1, (H710.pick (t := 119) rfl (H710.pick (t := 12) rfl (H710.pick (t := 13) rfl (H710.pick (t := 14) rfl H710.nil)))), O705.sel [0, 1, 2, 3, 4, 5, 6, 7, 8] (by decide), ?_, rfl⟩
   ·
    rw [hm620]; omega
   omega
  ·
   refine gR fun K711 hK711 => ?_
   refine V H618 (op_lss rfl (H618.ev rfl) (ev_c _ _)) fun _ H713 => ?_
   clear H618
   have H714 := H713.lit (b := true) (by decide)
   clear H713
   refine gE hK711 ?_
   refine gw_seq fun K715 hK715 => ?_
   refine gw_cond H714 rfl (fun hb716 => ?_) (fun hb716 => ?_)
   rotate_left
   ·
    cases hb716
   refine gS hK715 ?_
   refine gw_seq fun K717 hK717 => ?_
   refine wp_block ?_
   refine gR fun K718 hK718 => ?_
   refine Vm H714 fun _ H720 => ?_
   refine Va H720 fun _ H722 => ?_
   refine gE hK718 ?_
   refine gw_seq fun K723 hK723 => ?_
   clear H714 H720
   refine gw_drawB O619 (by kernel_rfl) (by kernel_rfl) fun w724 O725 => ?_
   clear O619
   refine Vn H722 (op_move rfl (H722.ev rfl)) fun _ H727 => ?_
   refine Vn H727 (op_indexP (q := 2) Tryd.underlying31 gwsiz3 rfl (H727.ev rfl) (H727.ev rfl) (by decide) rfl) fun _ H729 => ?_
   refine Vq H729 (fun wq hq => have HO := O725.after hq; op_load1 gwagg3 rfl (H729.ev rfl) (blk_at (HO.get 2 rfl) rfl)) fun _ H731 => ?_
   refine Vn H731 (op_move rfl (H731.ev rfl)) fun _ H733 => ?_
   refine Vn H733 (op_indexP (q := 2) Tryd.underlying31 gwsiz3 rfl (H733.ev rfl) (H733.ev rfl) (by decide) rfl) fun _ H735 => ?_
   refine Vq H735 (fun wq hq => have HO := O725.after hq; op_load1 gwagg3 rfl (H735.ev rfl) (blk_at (HO.get 0 rfl) rfl)) fun _ H737 => ?_
   refine Vn H737 (op_move rfl (H737.ev rfl)) fun _ H739 => ?_
   refine Vn H739 (op_indexP (q := 2) Tryd.underlying31 gwsiz3 rfl (H739.ev rfl) (H739.ev rfl) (by decide) rfl) fun _ H741 => ?_
   clear H722 H727 H729 H731 H733 H735 H737 H739
   refine Vq H741 (fun wq hq => have HO := O725.after hq; op_load1 gwagg3 rfl (H741.ev rfl) (blk_at (HO.get 1 rfl) rfl)) fun _ H743 => ?_
   refine Vn H743 (op_add rfl (H743.ev rfl) (H743.ev rfl) (by have h0_ := tot_b ps 0; have k0_ := tot_b qs 0; have h1_ := tot_b ps 1; have k1_ := tot_b qs 1; have h2_ := tot_b ps 2; have k2_ := tot_b qs 2; have h3_ := tot_b ps 3; have k3_ := tot_b qs 3; have h4_ := tot_b ps 4; have k4_ := tot_b qs 4; have h5_ := tot_b ps 5; have k5_ := tot_b qs 5; have h6_ := tot_b ps 6; have k6_ := tot_b qs 6; have h7_ := tot_b ps 7; have k7_ := tot_b qs 7; omega)) fun _ H745 => ?_
   refine Vn H745 (op_nei rfl (H745.ev rfl) (H745.ev rfl)) fun _ H747 => ?_
   clear H741 H743 H745
   have H748 := H747.lit (b := false) (by rw [tot_app]; simp)
   clear H747
   refine wpQuiet_nil ?_
   intro w749 hq
   have O750 := O725.after hq
   clear O725 hq
   refine gw_nx (hK723 _ _ ?_)
   refine gw_cond H748 rfl (fun hb751 => ?_) (fun hb751 => ?_)
   ·
    cases hb751
   refine wp_skip ?_
   refine gw_blk ?_
   refine gw_nx (hK717 _ _ ?_)
   refine wp_region_lit ?_
   refine V H748 (op_add rfl (H748.ev rfl) (ev_c _ _) (by omega)) fun _ H753 => ?_
   refine Vm H753 fun _ H755 => ?_
   clear H748 H753
   refine wpList_nil ?_
   refine gw_nx ⟨_, ?_, 2 + 1, (H755.pick (t := 119) rfl (H755.pick (t := 12) rfl (H755.pick (t := 13) rfl (H755.pick (t := 14) rfl H755.nil)))), O750.sel [0, 1, 2, 3, 4, 5, 6, 7, 8] (by decide), ?_, rfl⟩
   ·
    rw [hm620]; omega
   omega
  ·
   refine gR fun K756 hK756 => ?_
   refine V H618 (op_lss rfl (H618.ev rfl) (ev_c _ _)) fun _ H758 => ?_
   clear H618
   have H759 := H758.lit (b := true) (by decide)
   clear H758
   refine gE hK756 ?_
   refine gw_seq fun K760 hK760 => ?_
   refine gw_cond H759 rfl (fun hb761 => ?_) (fun hb761 => ?_)
   rotate_left
   ·
    cases hb761
   refine gS hK760 ?_
   refine gw_seq fun K762 hK762 => ?_
   refine wp_block ?_
   refine gR fun K763 hK763 => ?_
   refine Vm H759 fun _ H765 => ?_
   refine Va H765 fun _ H767 => ?_
   refine gE hK763 ?_
   refine gw_seq fun K768 hK768 => ?_
   clear H759 H765
   refine gw_drawB O619 (by kernel_rfl) (by kernel_rfl) fun w769 O770 => ?_
   clear O619
   refine Vn H767 (op_move rfl (H767.ev rfl)) fun _ H772 => ?_
   refine Vn H772 (op_indexP (q := 3) Tryd.underlying31 gwsiz3 rfl (H772.ev rfl) (H772.ev rfl) (by decide) rfl) fun _ H774 => ?_
   refine Vq H774 (fun wq hq => have HO := O770.after hq; op_load1 gwagg3 rfl (H774.ev rfl) (blk_at (HO.get 2 rfl) rfl)) fun _ H776 => ?_
   refine Vn H776 (op_move rfl (H776.ev rfl)) fun _ H778 => ?_
   refine Vn H778 (op_indexP (q := 3) Tryd.underlying31 gwsiz3 rfl (H778.ev rfl) (H778.ev rfl) (by decide) rfl) fun _ H780 => ?_
   refine Vq H780 (fun wq hq => have HO := O770.after hq; op_load1 gwagg3 rfl (H780.ev rfl) (blk_at (HO.get 0 rfl) rfl)) fun _ H782 => ?_
   refine Vn H782 (op_move rfl (H782.ev rfl)) fun _ H784 => ?_
   refine Vn H784 (op_indexP (q := 3) Tryd.underlying31 gwsiz3 rfl (H784.ev rfl) (H784.ev rfl) (by decide) rfl) fun _ H786 => ?_
   clear H767 H772 H774 H776 H778 H780 H782 H784
   refine Vq H786 (fun wq hq => have HO := O770.after hq; op_load1 gwagg3 rfl (H786.ev rfl) (blk_at (HO.get 1 rfl) rfl)) fun _ H788 => ?_
   refine Vn H788 (op_add rfl (H788.ev rfl) (H788.ev rfl) (by have h0_ := tot_b ps 0; have k0_ := tot_b qs 0; have h1_ := tot_b ps 1; have k1_ := tot_b qs 1; have h2_ := tot_b ps 2; have k2_ := tot_b qs 2; have h3_ := tot_b ps 3; have k3_ := tot_b qs 3; have h4_ := tot_b ps 4; have k4_ := tot_b qs 4; have h5_ := tot_b ps 5; have k5_ := tot_b qs 5; have h6_ := tot_b ps 6; have k6_ := tot_b qs 6; have h7_ := tot_b ps 7; have k7_ := tot_b qs 7; omega)) fun _ H790 => ?_
   refine Vn H790 (op_nei rfl (H790.ev rfl) (H790.ev rfl)) fun _ H792 => ?_
   clear H786 H788 H790
   have H793 := H792.lit (b := false) (by rw [tot_app]; simp)
   clear H792
   refine wpQuiet_nil ?_
   intro w794 hq
   have O795 := O770.after hq
   clear O770 hq
   refine gw_nx (hK768 _ _ ?_)
   refine gw_cond H793 rfl (fun hb796 => ?_) (fun hb796 => ?_)
   ·
    cases hb796
   refine wp_skip ?_
   refine gw_blk ?_
   refine gw_nx (hK762 _ _ ?_)
   refine wp_region_lit ?_
   refine V H793 (op_add rfl (H793.ev rfl) (ev_c _ _) (by omega)) fun _ H798 => ?_
   refine Vm H798 fun _ H800 => ?_
   clear H793 H798
   refine wpList_nil ?_
   refine gw_nx ⟨_, ?_, 3 + 1, (H800.pick (t := 119) rfl (H800.pick (t := 12) rfl (H800.pick (t := 13) rfl (H800.pick (t := 14) rfl H800.nil)))), O795.sel [0, 1, 2, 3, 4, 5, 6, 7, 8] (by decide), ?_, rfl⟩
   ·
    rw [hm620]; omega
   omega
  ·
   refine gR fun K801 hK801 => ?_
   refine V H618 (op_lss rfl (H618.ev rfl) (ev_c _ _)) fun _ H803 => ?_
   clear H618
   have H804 := H803.lit (b := true) (by decide)
   clear H803
   refine gE hK801 ?_
   refine gw_seq fun K805 hK805 => ?_
   refine gw_cond H804 rfl (fun hb806 => ?_) (fun hb806 => ?_)
   rotate_left
   ·
    cases hb806
   refine gS hK805 ?_
   refine gw_seq fun K807 hK807 => ?_
   refine wp_block ?_
   refine gR fun K808 hK808 => ?_
   refine Vm H804 fun _ H810 => ?_
   refine Va H810 fun _ H812 => ?_
   refine gE hK808 ?_
   refine gw_seq fun K813 hK813 => ?_
   clear H804 H810
   refine gw_drawB O619 (by kernel_rfl) (by kernel_rfl) fun w814 O815 => ?_
   clear O619
   refine Vn H812 (op_move rfl (H812.ev rfl)) fun _ H817 => ?_
   refine Vn H817 (op_indexP (q := 4) Tryd.underlying31 gwsiz3 rfl (H817.ev rfl) (H817.ev rfl) (by decide) rfl) fun _ H819 => ?_
   refine Vq H819 (fun wq hq => have HO := O815.after hq; op_load1 gwagg3 rfl (H819.ev rfl) (blk_at (HO.get 2 rfl) rfl)) fun _ H821 => ?_
   refine Vn H821 (op_move rfl (H821.ev rfl)) fun _ H823 => ?_
   refine Vn H823 (op_indexP (q := 4) Tryd.underlying31 gwsiz3 rfl (H823.ev rfl) (H823.ev rfl) (by decide) rfl) fun _ H825 => ?_
   refine Vq H825 (fun wq hq => have HO := O815.after hq; op_load1 gwagg3 rfl (H825.ev rfl) (blk_at (HO.get 0 rfl) rfl)) fun _ H827 => ?_
   refine Vn H827 (op_move rfl (H827.ev rfl)) fun _ H829 => ?_
   refine Vn H829 (op_indexP (q := 4) Tryd.underlying31 gwsiz3 rfl (H829.ev rfl) (H829.ev rfl) (by decide) rfl) fun _ H831 => ?_
   clear H812 H817 H819 H821 H823 H825 H827 H829
   refine Vq H831 (fun wq hq => have HO := O815.after hq; op_load1 gwagg3 rfl (H831.ev rfl) (blk_at (HO.get 1 rfl) rfl)) fun _ H833 => ?_
   refine Vn H833 (op_add rfl (H833.ev rfl) (H833.ev rfl) (by have h0_ := tot_b ps 0; have k0_ := tot_b qs 0; have h1_ := tot_b ps 1; have k1_ := tot_b qs 1; have h2_ := tot_b ps 2; have k2_ := tot_b qs 2; have h3_ := tot_b ps 3; have k3_ := tot_b qs 3; have h4_ := tot_b ps 4; have k4_ := tot_b qs 4; have h5_ := tot_b ps 5; have k5_ := tot_b qs 5; have h6_ := tot_b ps 6; have k6_ := tot_b qs 6; have h7_ := tot_b ps 7; have k7_ := tot_b qs 7; omega)) fun _ H835 => ?_
   refine Vn H835 (op_nei rfl (H835.ev rfl) (H835.ev rfl)) fun _ H837 => ?_
   clear H831 H833 H835
   have H838 := H837.lit (b := false) (by rw [tot_app]; simp)
   clear H837
   refine wpQuiet_nil ?_
   intro w839 hq
   have O840 := O815.after hq
   clear O815 hq
   refine gw_nx (hK813 _ _ ?_)
   refine gw_cond H838 rfl (fun hb841 => ?_) (fun hb841 => ?_)
   ·
    cases hb841
   refine wp_skip ?_
   refine gw_blk ?_
   refine gw_nx (hK807 _ _ ?_)
   refine wp_region_lit ?_
   refine V H838 (op_add rfl (H838.ev rfl) (ev_c _ _) (by omega)) fun _ H843 => ?_
   refine Vm H843 fun _ H845 => ?_
   clear H838 H843
   refine wpList_nil ?_
   refine gw_nx ⟨_, ?_, 4 + 1, (H845.pick (t := 119) rfl (H845.pick (t := 12) rfl (H845.pick (t := 13) rfl (H845.pick (t := 14) rfl H845.nil)))), O840.sel [0, 1, 2, 3, 4, 5, 6, 7, 8] (by decide), ?_, rfl⟩
   ·
    rw [hm620]; omega
   omega
  ·
   refine gR fun K846 hK846 => ?_
   refine V H618 (op_lss rfl (H618.ev rfl) (ev_c _ _)) fun _ H848 => ?_
   clear H618
   have H849 := H848.lit (b := true) (by decide)
   clear H848
   refine gE hK846 ?_
   refine gw_seq fun K850 hK850 => ?_
   refine gw_cond H849 rfl (fun hb851 => ?_) (fun hb851 => ?_)
   rotate_left
   ·
    cases hb851
   refine gS hK850 ?_
   refine gw_seq fun K852 hK852 => ?_
   refine wp_block ?_
   refine gR fun K853 hK853 => ?_
   refine Vm H849 fun _ H855 => ?_
   refine Va H855 fun _ H857 => ?_
   refine gE hK853 ?_
   refine gw_seq fun K858 hK858 => ?_
   clear H849 H855
   refine gw_drawB O619 (by kernel_rfl) (by kernel_rfl) fun w859 O860 => ?_
   clear O619
   refine Vn H857 (op_move rfl (H857.ev rfl)) fun _ H862 => ?_
   refine Vn H862 (op_indexP (q := 5) Tryd.underlying31 gwsiz3 rfl (H862.ev rfl) (H862.ev rfl) (by decide) rfl) fun _ H864 => ?_
   refine Vq H864 (fun wq hq => have HO := O860.after hq; op_load1 gwagg3 rfl (H864.ev rfl) (blk_at (HO.get 2 rfl) rfl)) fun _ H866 => ?_
   refine Vn H866 (op_move rfl (H866.ev rfl)) fun _ H868 => ?_
   refine Vn H868 (op_indexP (q := 5) Tryd.underlying31 gwsiz3 rfl (H868.ev rfl) (H868.ev rfl) (by decide) rfl) fun _ H870 => ?_
   refine Vq H870 (fun wq hq => have HO := O860.after hq; op_load1 gwagg3 rfl (H870.ev rfl) (blk_at (HO.get 0 rfl) rfl)) fun _ H872 => ?_
   refine Vn H872 (op_move rfl (H872.ev rfl)) fun _ H874 => ?_
   refine Vn H874 (op_indexP (q := 5) Tryd.underlying31 gwsiz3 rfl (H874.ev rfl) (H874.ev rfl) (by decide) rfl) fun _ H876 => ?_
   clear H857 H862 H864 H866 H868 H870 H872 H874
   refine Vq H876 (fun wq hq => have HO := O860.after hq; op_load1 gwagg3 rfl (H876.ev rfl) (blk_at (HO.get 1 rfl) rfl)) fun _ H878 => ?_
   refine Vn H878 (op_add rfl (H878.ev rfl) (H878.ev rfl) (by have h0_ := tot_b ps 0; have k0_ := tot_b qs 0; have h1_ := tot_b ps 1; have k1_ := tot_b qs 1; have h2_ := tot_b ps 2; have k2_ := tot_b qs 2; have h3_ := tot_b ps 3; have k3_ := tot_b qs 3; have h4_ := tot_b ps 4; have k4_ := tot_b qs 4; have h5_ := tot_b ps 5; have k5_ := tot_b qs 5; have h6_ := tot_b ps 6; have k6_ := tot_b qs 6; have h7_ := tot_b ps 7; have k7_ := tot_b qs 7; omega)) fun _ H880 => ?_
   refine Vn H880 (op_nei rfl (H880.ev rfl) (H880.ev rfl)) fun _ H882 => ?_
   clear H876 H878 H880
   have H883 := H882.lit (b := false) (by rw [tot_app]; simp)
   clear H882
   refine wpQuiet_nil ?_
   intro w884 hq
   have O885 := O860.after hq
   clear O860 hq
   refine gw_nx (hK858 _ _ ?_)
   refine gw_cond H883 rfl (fun hb886 => ?_) (fun hb886 => ?_)
   ·
    cases hb886
   refine wp_skip ?_
   refine gw_blk ?_
   refine gw_nx (hK852 _ _ ?_)
   refine wp_region_lit ?_
   refine V H883 (op_add rfl (H883.ev rfl) (ev_c _ _) (by omega)) fun _ H888 => ?_
   refine Vm H888 fun _ H890 => ?_
   clear H883 H888
   refine wpList_nil ?_
   refine gw_nx ⟨_, ?_, 5 + 1, (H890.pick (t := 119) rfl (H890.pick (t := 12) rfl (H890.pick (t := 13) rfl (H890.pick (t := 14) rfl H890.nil)))), O885.sel [0, 1, 2, 3, 4, 5, 6, 7, 8] (by decide), ?_, rfl⟩
   ·
    rw [hm620]; omega
   omega
  ·
   refine gR fun K891 hK891 => ?_
   refine V H618 (op_lss rfl (H618.ev rfl) (ev_c _ _)) fun _ H893 => ?_
   clear H618
   have H894 := H893.lit (b := true) (by decide)
   clear H893
   refine gE hK891 ?_
   refine gw_seq fun K895 hK895 => ?_
   refine gw_cond H894 rfl (fun hb896 => ?_) (fun hb896 => ?_)
   rotate_left
   ·
    cases hb896
   refine gS hK895 ?_
   refine gw_seq fun K897 hK897 => ?_
   refine wp_block ?_
   refine gR fun K898 hK898 => ?_
   refine Vm H894 fun _ H900 => ?_
   refine Va H900 fun _ H902 => ?_
   refine gE hK898 ?_
   refine gw_seq fun K903 hK903 => ?_
   clear H894 H900
   refine gw_drawB O619 (by kernel_rfl) (by kernel_rfl) fun w904 O905 => ?_
   clear O619
   refine Vn H902 (op_move rfl (H902.ev rfl)) fun _ H907 => ?_
   refine Vn H907 (op_indexP (q := 6) Tryd.underlying31 gwsiz3 rfl (H907.ev rfl) (H907.ev rfl) (by decide) rfl) fun _ H909 => ?_
   refine Vq H909 (fun wq hq => have HO := O905.after hq; op_load1 gwagg3 rfl (H909.ev rfl) (blk_at (HO.get 2 rfl) rfl)) fun _ H911 => ?_
   refine Vn H911 (op_move rfl (H911.ev rfl)) fun _ H913 => ?_
   refine Vn H913 (op_indexP (q := 6) Tryd.underlying31 gwsiz3 rfl (H913.ev rfl) (H913.ev rfl) (by decide) rfl) fun _ H915 => ?_
   refine Vq H915 (fun wq hq => have HO := O905.after hq; op_load1 gwagg3 rfl (H915.ev rfl) (blk_at (HO.get 0 rfl) rfl)) fun _ H917 => ?_
   refine Vn H917 (op_move rfl (H917.ev rfl)) fun _ H919 => ?_
   refine Vn H919 (op_indexP (q := 6) Tryd.underlying31 gwsiz3 rfl (H919.ev rfl) (H919.ev rfl) (by decide) rfl) fun _ H921 => ?_
   clear H902 H907 H909 H911 H913 H915 H917 H919
   refine Vq H921 (fun wq hq => have HO := O905.after hq; op_load1 gwagg3 rfl (H921.ev rfl) (blk_at (HO.get 1 rfl) rfl)) fun _ H923 => ?_
   refine Vn H923 (op_add rfl (H923.ev rfl) (H923.ev rfl) (by have h0_ := tot_b ps 0; have k0_ := tot_b qs 0; have h1_ := tot_b ps 1; have k1_ := tot_b qs 1; have h2_ := tot_b ps 2; have k2_ := tot_b qs 2; have h3_ := tot_b ps 3; have k3_ := tot_b qs 3; have h4_ := tot_b ps 4; have k4_ := tot_b qs 4; have h5_ := tot_b ps 5; have k5_ := tot_b qs 5; have h6_ := tot_b ps 6; have k6_ := tot_b qs 6; have h7_ := tot_b ps 7; have k7_ := tot_b qs 7; omega)) fun _ H925 => ?_
   refine Vn H925 (op_nei rfl (H925.ev rfl) (H925.ev rfl)) fun _ H927 => ?_
   clear H921 H923 H925
   have H928 := H927.lit (b := false) (by rw [tot_app]; simp)
   clear H927
   refine wpQuiet_nil ?_
   intro w929 hq
   have O930 := O905.after hq
   clear O905 hq
   refine gw_nx (hK903 _ _ ?_)
   refine gw_cond H928 rfl (fun hb931 => ?_) (fun hb931 => ?_)
   ·
    cases hb931
   refine wp_skip ?_
   refine gw_blk ?_
   refine gw_nx (hK897 _ _ ?_)
   refine wp_region_lit ?_
   refine V H928 (op_add rfl (H928.ev rfl) (ev_c _ _) (by omega)) fun _ H933 => ?_
   refine Vm H933 fun _ H935 => ?_
   clear H928 H933
   refine wpList_nil ?_
   refine gw_nx ⟨_, ?_, 6 + 1, (H935.pick (t := 119) rfl (H935.pick (t := 12) rfl (H935.pick (t := 13) rfl (H935.pick (t := 14) rfl H935.nil)))), O930.sel [0, 1, 2, 3, 4, 5, 6, 7, 8] (by decide), ?_, rfl⟩
   ·
    rw [hm620]; omega
   omega
  ·
   refine gR fun K936 hK936 => ?_
   refine V H618 (op_lss rfl (H618.ev rfl) (ev_c _ _)) fun _ H938 => ?_
   clear H618
   have H939 := H938.lit (b := true) (by decide)
   clear H938
   refine gE hK936 ?_
   refine gw_seq fun K940 hK940 => ?_
   refine gw_cond H939 rfl (fun hb941 => ?_) (fun hb941 => ?_)
   rotate_left
   ·
    cases hb941
   refine gS hK940 ?_
   refine gw_seq fun K942 hK942 => ?_
   refine wp_block ?_
   refine gR fun K943 hK943 => ?_
   refine Vm H939 fun _ H945 => ?_
   refine Va H945 fun _ H947 => ?_
   refine gE hK943 ?_
   refine gw_seq fun K948 hK948 => ?_
   clear H939 H945
   refine gw_drawB O619 (by kernel_rfl) (by kernel_rfl) fun w949 O950 => ?_
   clear O619
   refine Vn H947 (op_move rfl (H947.ev rfl)) fun _ H952 => ?_
   refine Vn H952 (op_indexP (q := 7) Tryd.underlying31 gwsiz3 rfl (H952.ev rfl) (H952.ev rfl) (by decide) rfl) fun _ H954 => ?_
   refine Vq H954 (fun wq hq => have HO := O950.after hq; op_load1 gwagg3 rfl (H954.ev rfl) (blk_at (HO.get 2 rfl) rfl)) fun _ H956 => ?_
   refine Vn H956 (op_move rfl (H956.ev rfl)) fun _ H958 => ?_
   refine Vn H958 (op_indexP (q := 7) Tryd.underlying31 gwsiz3 rfl (H958.ev rfl) (H958.ev rfl) (by decide) rfl) fun _ H960 => ?_
   refine Vq H960 (fun wq hq => have HO := O950.after hq; op_load1 gwagg3 rfl (H960.ev rfl) (blk_at (HO.get 0 rfl) rfl)) fun _ H962 => ?_
   refine Vn H962 (op_move rfl (H962.ev rfl)) fun _ H964 => ?_
   refine Vn H964 (op_indexP (q := 7) Tryd.underlying31 gwsiz3 rfl (H964.ev rfl) (H964.ev rfl) (by decide) rfl) fun _ H966 => ?_
   clear H947 H952 H954 H956 H958 H960 H962 H964
   refine Vq H966 (fun wq hq => have HO := O950.after hq; op_load1 gwagg3 rfl (H966.ev rfl) (blk_at (HO.get 1 rfl) rfl)) fun _ H968 => ?_
   refine Vn H968 (op_add rfl (H968.ev rfl) (H968.ev rfl) (by have h0_ := tot_b ps 0; have k0_ := tot_b qs 0; have h1_ := tot_b ps 1; have k1_ := tot_b qs 1; have h2_ := tot_b ps 2; have k2_ := tot_b qs 2; have h3_ := tot_b ps 3; have k3_ := tot_b qs 3; have h4_ := tot_b ps 4; have k4_ := tot_b qs 4; have h5_ := tot_b ps 5; have k5_ := tot_b qs 5; have h6_ := tot_b ps 6; have k6_ := tot_b qs 6; have h7_ := tot_b ps 7; have k7_ := tot_b qs 7; omega)) fun _ H970 => ?_
   refine Vn H970 (op_nei rfl (H970.ev rfl) (H970.ev rfl)) fun _ H972 => ?_
   clear H966 H968 H970
   have H973 := H972.lit (b := false) (by rw [tot_app]; simp)
   clear H972
   refine wpQuiet_nil ?_
   intro w974 hq
   have O975 := O950.after hq
   clear O950 hq
   refine gw_nx (hK948 _ _ ?_)
   refine gw_cond H973 rfl (fun hb976 => ?_) (fun hb976 => ?_)
   ·
    cases hb976
   refine wp_skip ?_
   refine gw_blk ?_
   refine gw_nx (hK942 _ _ ?_)
   refine wp_region_lit ?_
   refine V H973 (op_add rfl (H973.ev rfl) (ev_c _ _) (by omega)) fun _ H978 => ?_
   refine Vm H978 fun _ H980 => ?_
   clear H973 H978
   refine wpList_nil ?_
   refine gw_nx ⟨_, ?_, 7 + 1, (H980.pick (t := 119) rfl (H980.pick (t := 12) rfl (H980.pick (t := 13) rfl (H980.pick (t := 14) rfl H980.nil)))), O975.sel [0, 1, 2, 3, 4, 5, 6, 7, 8] (by decide), ?_, rfl⟩
   ·
    rw [hm620]; omega
   omega
  refine gR fun K981 hK981 => ?_
  refine V H618 (op_lss rfl (H618.ev rfl) (ev_c _ _)) fun _ H983 => ?_
  clear H618
  have H984 := H983.lit (b := false) (by decide)
  clear H983
  refine gE hK981 ?_
  refine gw_seq fun K985 hK985 => ?_
  refine gw_cond H984 rfl (fun hb986 => ?_) (fun hb986 => ?_)
  ·
   cases hb986
  refine wp_exit ?_
  refine gw_thx ?_
  refine gw_thx ?_
  refine gw_in ?_
  refine gw_nx (hK610 _ _ ?_)
  refine gR fun K987 hK987 => ?_
  refine Vc H984 fun _ H989 => ?_
  refine gE hK987 ?_
  refine wp_ret ?_
  clear H984
  refine gw_ret1 H989 rfl rfl ?_
  exact ⟨rfl, O619.below⟩
 refine gx_cut (fun a_ w_ => ∃ g560 g566 : Nat, Fr 134 a_ [(114, .agg #[J (totL ps 0), J (totL ps 1), J (totL ps 2), J (totL ps 3), J (totL ps 4), J (totL ps 5), J (totL ps 6), J (totL ps 7)]), (116, .agg #[J (totL qs 0), J (totL qs 1), J (totL qs 2), J (totL qs 3), J (totL qs 4), J (totL qs 5), J (totL qs 6), J (totL qs 7)]), (118, .agg #[J (totL (ps ++ qs) 0), J (totL (ps ++ qs) 1), J (totL (ps ++ qs) 2), J (totL (ps ++ qs) 3), J (totL (ps ++ qs) 4), J (totL (ps ++ qs) 5), J (totL (ps ++ qs) 6), J (totL (ps ++ qs) 7)]), (12, .pointer (some ⟨g560, 0, none⟩)), (13, .pointer (some ⟨g566, 0, none⟩)), (5, .pointer (some ⟨gq, 0, none⟩)), (2, .pointer (some ⟨g2, 0, none⟩)), (3, .pointer (some ⟨g8, 0, none⟩)), (113, .agg #[.string su, .string bo, .slice A0 ps.length c0]), (115, .agg #[.string su2, .string bo2, .slice A1 qs.length c1]), (117, .agg #[.string su, .string bo, .slice Aq ((ps ++ qs).length) cq])] ∧ Own w w_ [Bk g560 [J 0, J 0, J 0, J 0, J 0, J 0, J 0, J 0] 31, Bk g566 [J 0, J 0, J 0, J 0, J 0, J 0, J 0, J 0] 31, Bk g284 [.string su, .string bo, .slice A260 ((ps ++ qs).length) c261] 24, Bk gq [.string su, .string bo, .slice Aq ((ps ++ qs).length) cq] 24, Chunk.frz wq Sq, Bk g8 [.string su2, .string bo2, .slice A1 qs.length c1] 24, Bk g2 [.string su, .string bo, .slice A0 ps.length c0] 24, Chunk.frz wz262 S263]) #[true, true, true, true, true, true, true, true, false, false, false, false] 4 ?_ fun J990 => ?_
 ·
  rintro _ w992 ⟨g560, g566, H993, O994⟩
  refine gx_step 8 rfl (by kernel_rfl) ?_
  refine gw_new H993 O994 (want_none rfl) rfl (by decide) (op_alloc gwzer31 rfl) ?_
  intro g995 _ w997 H998 O999; clear H993 O994
  have O1000 : Own w w997 [Bk g995 [J 0, J 0, J 0, J 0, J 0, J 0, J 0, J 0] 31, Bk g560 [J 0, J 0, J 0, J 0, J 0, J 0, J 0, J 0] 31, Bk g566 [J 0, J 0, J 0, J 0, J 0, J 0, J 0, J 0] 31, Bk g284 [.string su, .string bo, .slice A260 ((ps ++ qs).length) c261] 24, Bk gq [.string su, .string bo, .slice Aq ((ps ++ qs).length) cq] 24, Chunk.frz wq Sq, Bk g8 [.string su2, .string bo2, .slice A1 qs.length c1] 24, Bk g2 [.string su, .string bo, .slice A0 ps.length c0] 24, Chunk.frz wz262 S263] := O999
  clear O999
  refine gx_on (i := 8) (B := (fun j_ => false)) (fun _ => (by exact O1000.sel [3, 4, 5, 6, 7, 8] (by decide))) ?_
  exact J592 _ _ ⟨g560, g566, g995, (H998.pick (t := 114) rfl (H998.pick (t := 116) rfl (H998.pick (t := 118) rfl (H998.pick (t := 12) rfl (H998.pick (t := 13) rfl (H998.pick (t := 14) rfl (H998.pick (t := 5) rfl (H998.pick (t := 2) rfl (H998.pick (t := 3) rfl (H998.pick (t := 113) rfl (H998.pick (t := 115) rfl (H998.pick (t := 117) rfl H998.nil)))))))))))), O1000.sel [1, 2, 0, 3, 4, 5, 6, 7, 8] (by decide)⟩
 refine gx_cut (fun a_ w_ => ∃ g560 g572 : Nat, Fr 134 a_ [(114, .agg #[J (totL ps 0), J (totL ps 1), J (totL ps 2), J (totL ps 3), J (totL ps 4), J (totL ps 5), J (totL ps 6), J (totL ps 7)]), (116, .agg #[J (totL qs 0), J (totL qs 1), J (totL qs 2), J (totL qs 3), J (totL qs 4), J (totL qs 5), J (totL qs 6), J (totL qs 7)]), (118, .agg #[J (totL (ps ++ qs) 0), J (totL (ps ++ qs) 1), J (totL (ps ++ qs) 2), J (totL (ps ++ qs) 3), J (totL (ps ++ qs) 4), J (totL (ps ++ qs) 5), J (totL (ps ++ qs) 6), J (totL (ps ++ qs) 7)]), (12, .pointer (some ⟨g560, 0, none⟩)), (14, .pointer (some ⟨g572, 0, none⟩)), (5, .pointer (some ⟨gq, 0, none⟩)), (2, .pointer (some ⟨g2, 0, none⟩)), (3, .pointer (some ⟨g8, 0, none⟩)), (113, .agg #[.string su, .string bo, .slice A0 ps.length c0]), (115, .agg #[.string su2, .string bo2, .slice A1 qs.length c1]), (117, .agg #[.string su, .string bo, .slice Aq ((ps ++ qs).length) cq])] ∧ Own w w_ [Bk g560 [J 0, J 0, J 0, J 0, J 0, J 0, J 0, J 0] 31, Bk g572 [J 0, J 0, J 0, J 0, J 0, J 0, J 0, J 0] 31, Bk g284 [.string su, .string bo, .slice A260 ((ps ++ qs).length) c261] 24, Bk gq [.string su, .string bo, .slice Aq ((ps ++ qs).length) cq] 24, Chunk.frz wq Sq, Bk g8 [.string su2, .string bo2, .slice A1 qs.length c1] 24, Bk g2 [.string su, .string bo, .slice A0 ps.length c0] 24, Chunk.frz wz262 S263]) #[true, true, true, true, true, true, true, false, true, false, false, false] 4 ?_ fun J1001 => ?_
 ·
  rintro _ w1003 ⟨g560, g572, H1004, O1005⟩
  refine gx_step 7 rfl (by kernel_rfl) ?_
  refine gw_new H1004 O1005 (want_none rfl) rfl (by decide) (op_alloc gwzer31 rfl) ?_
  intro g1006 _ w1008 H1009 O1010; clear H1004 O1005
  have O1011 : Own w w1008 [Bk g1006 [J 0, J 0, J 0, J 0, J 0, J 0, J 0, J 0] 31, Bk g560 [J 0, J 0, J 0, J 0, J 0, J 0, J 0, J 0] 31, Bk g572 [J 0, J 0, J 0, J 0, J 0, J 0, J 0, J 0] 31, Bk g284 [.string su, .string bo, .slice A260 ((ps ++ qs).length) c261] 24, Bk gq [.string su, .string bo, .slice Aq ((ps ++ qs).length) cq] 24, Chunk.frz wq Sq, Bk g8 [.string su2, .string bo2, .slice A1 qs.length c1] 24, Bk g2 [.string su, .string bo, .slice A0 ps.length c0] 24, Chunk.frz wz262 S263] := O1010
  clear O1010
  refine gx_on (i := 7) (B := (fun j_ => false)) (fun _ => (by exact O1011.sel [3, 4, 5, 6, 7, 8] (by decide))) ?_
  exact J592 _ _ ⟨g560, g1006, g572, (H1009.pick (t := 114) rfl (H1009.pick (t := 116) rfl (H1009.pick (t := 118) rfl (H1009.pick (t := 12) rfl (H1009.pick (t := 13) rfl (H1009.pick (t := 14) rfl (H1009.pick (t := 5) rfl (H1009.pick (t := 2) rfl (H1009.pick (t := 3) rfl (H1009.pick (t := 113) rfl (H1009.pick (t := 115) rfl (H1009.pick (t := 117) rfl H1009.nil)))))))))))), O1011.sel [1, 0, 2, 3, 4, 5, 6, 7, 8] (by decide)⟩
 refine gx_cut (fun a_ w_ => ∃ g566 g572 : Nat, Fr 134 a_ [(114, .agg #[J (totL ps 0), J (totL ps 1), J (totL ps 2), J (totL ps 3), J (totL ps 4), J (totL ps 5), J (totL ps 6), J (totL ps 7)]), (116, .agg #[J (totL qs 0), J (totL qs 1), J (totL qs 2), J (totL qs 3), J (totL qs 4), J (totL qs 5), J (totL qs 6), J (totL qs 7)]), (118, .agg #[J (totL (ps ++ qs) 0), J (totL (ps ++ qs) 1), J (totL (ps ++ qs) 2), J (totL (ps ++ qs) 3), J (totL (ps ++ qs) 4), J (totL (ps ++ qs) 5), J (totL (ps ++ qs) 6), J (totL (ps ++ qs) 7)]), (13, .pointer (some ⟨g566, 0, none⟩)), (14, .pointer (some ⟨g572, 0, none⟩)), (5, .pointer (some ⟨gq, 0, none⟩)), (2, .pointer (some ⟨g2, 0, none⟩)), (3, .pointer (some ⟨g8, 0, none⟩)), (113, .agg #[.string su, .string bo, .slice A0 ps.length c0]), (115, .agg #[.string su2, .string bo2, .slice A1 qs.length c1]), (117, .agg #[.string su, .string bo, .slice Aq ((ps ++ qs).length) cq])] ∧ Own w w_ [Bk g566 [J 0, J 0, J 0, J 0, J 0, J 0, J 0, J 0] 31, Bk g572 [J 0, J 0, J 0, J 0, J 0, J 0, J 0, J 0] 31, Bk g284 [.string su, .string bo, .slice A260 ((ps ++ qs).length) c261] 24, Bk gq [.string su, .string bo, .slice Aq ((ps ++ qs).length) cq] 24, Chunk.frz wq Sq, Bk g8 [.string su2, .string bo2, .slice A1 qs.length c1] 24, Bk g2 [.string su, .string bo, .slice A0 ps.length c0] 24, Chunk.frz wz262 S263]) #[true, true, true, true, true, true, false, true, true, false, false, false] 4 ?_ fun J1012 => ?_
 ·
  rintro _ w1014 ⟨g566, g572, H1015, O1016⟩
  refine gx_step 6 rfl (by kernel_rfl) ?_
  refine gw_new H1015 O1016 (want_none rfl) rfl (by decide) (op_alloc gwzer31 rfl) ?_
  intro g1017 _ w1019 H1020 O1021; clear H1015 O1016
  have O1022 : Own w w1019 [Bk g1017 [J 0, J 0, J 0, J 0, J 0, J 0, J 0, J 0] 31, Bk g566 [J 0, J 0, J 0, J 0, J 0, J 0, J 0, J 0] 31, Bk g572 [J 0, J 0, J 0, J 0, J 0, J 0, J 0, J 0] 31, Bk g284 [.string su, .string bo, .slice A260 ((ps ++ qs).length) c261] 24, Bk gq [.string su, .string bo, .slice Aq ((ps ++ qs).length) cq] 24, Chunk.frz wq Sq, Bk g8 [.string su2, .string bo2, .slice A1 qs.length c1] 24, Bk g2 [.string su, .string bo, .slice A0 ps.length c0] 24, Chunk.frz wz262 S263] := O1021
  clear O1021
  refine gx_on (i := 6) (B := (fun j_ => false)) (fun _ => (by exact O1022.sel [3, 4, 5, 6, 7, 8] (by decide))) ?_
  exact J592 _ _ ⟨g1017, g566, g572, (H1020.pick (t := 114) rfl (H1020.pick (t := 116) rfl (H1020.pick (t := 118) rfl (H1020.pick (t := 12) rfl (H1020.pick (t := 13) rfl (H1020.pick (t := 14) rfl (H1020.pick (t := 5) rfl (H1020.pick (t := 2) rfl (H1020.pick (t := 3) rfl (H1020.pick (t := 113) rfl (H1020.pick (t := 115) rfl (H1020.pick (t := 117) rfl H1020.nil)))))))))))), O1022.sel [0, 1, 2, 3, 4, 5, 6, 7, 8] (by decide)⟩
 refine gx_cut (fun a_ w_ => ∃ g560 g566 g572 : Nat, Fr 134 a_ [(114, .agg #[J (totL ps 0), J (totL ps 1), J (totL ps 2), J (totL ps 3), J (totL ps 4), J (totL ps 5), J (totL ps 6), J (totL ps 7)]), (116, .agg #[J (totL qs 0), J (totL qs 1), J (totL qs 2), J (totL qs 3), J (totL qs 4), J (totL qs 5), J (totL qs 6), J (totL qs 7)]), (12, .pointer (some ⟨g560, 0, none⟩)), (13, .pointer (some ⟨g566, 0, none⟩)), (14, .pointer (some ⟨g572, 0, none⟩)), (5, .pointer (some ⟨gq, 0, none⟩)), (2, .pointer (some ⟨g2, 0, none⟩)), (3, .pointer (some ⟨g8, 0, none⟩)), (113, .agg #[.string su, .string bo, .slice A0 ps.length c0]), (115, .agg #[.string su2, .string bo2, .slice A1 qs.length c1]), (117, .agg #[.string su, .string bo, .slice Aq ((ps ++ qs).length) cq])] ∧ Own w w_ [Bk g560 [J 0, J 0, J 0, J 0, J 0, J 0, J 0, J 0] 31, Bk g566 [J 0, J 0, J 0, J 0, J 0, J 0, J 0, J 0] 31, Bk g572 [J 0, J 0, J 0, J 0, J 0, J 0, J 0, J 0] 31, Bk g284 [.string su, .string bo, .slice A260 ((ps ++ qs).length) c261] 24, Bk gq [.string su, .string bo, .slice Aq ((ps ++ qs).length) cq] 24, Chunk.frz wq Sq, Bk g8 [.string su2, .string bo2, .slice A1 qs.length c1] 24, Bk g2 [.string su, .string bo, .slice A0 ps.length c0] 24, Chunk.frz wz262 S263]) #[true, true, true, true, true, false, true, true, true, false, false, false] 4 ?_ fun J1023 => ?_
 ·
  rintro _ w1025 ⟨g560, g566, g572, H1026, O1027⟩
  refine gx_step 5 rfl (by kernel_rfl) ?_
  refine Wk H1026 Tryd.func12 rfl (ar_cons (H1026.ev rfl) ar_nil) (totals_calls su bo Aq cq (ps ++ qs) _ (frz_C (i := 5) O1027 rfl hbq hFq) hlq (by omega)) ?_
  rintro e1028 w1029 ⟨rfl, hb1030⟩
  refine ⟨_, rfl, fun _ H1032 => ?_⟩
  have O1033 := O1027.after hb1030
  clear H1026 O1027 hb1030
  refine gx_on (i := 5) (B := (fun j_ => false)) (fun _ => (by exact O1033.sel [3, 4, 5, 6, 7, 8] (by decide))) ?_
  exact J592 _ _ ⟨g560, g566, g572, (H1032.pick (t := 114) rfl (H1032.pick (t := 116) rfl (H1032.pick (t := 118) rfl (H1032.pick (t := 12) rfl (H1032.pick (t := 13) rfl (H1032.pick (t := 14) rfl (H1032.pick (t := 5) rfl (H1032.pick (t := 2) rfl (H1032.pick (t := 3) rfl (H1032.pick (t := 113) rfl (H1032.pick (t := 115) rfl (H1032.pick (t := 117) rfl H1032.nil)))))))))))), O1033.sel [0, 1, 2, 3, 4, 5, 6, 7, 8] (by decide)⟩
 refine gx_cut (fun a_ w_ => ∃ g560 : Nat, Fr 134 a_ [(114, .agg #[J (totL ps 0), J (totL ps 1), J (totL ps 2), J (totL ps 3), J (totL ps 4), J (totL ps 5), J (totL ps 6), J (totL ps 7)]), (116, .agg #[J (totL qs 0), J (totL qs 1), J (totL qs 2), J (totL qs 3), J (totL qs 4), J (totL qs 5), J (totL qs 6), J (totL qs 7)]), (118, .agg #[J (totL (ps ++ qs) 0), J (totL (ps ++ qs) 1), J (totL (ps ++ qs) 2), J (totL (ps ++ qs) 3), J (totL (ps ++ qs) 4), J (totL (ps ++ qs) 5), J (totL (ps ++ qs) 6), J (totL (ps ++ qs) 7)]), (12, .pointer (some ⟨g560, 0, none⟩)), (5, .pointer (some ⟨gq, 0, none⟩)), (2, .pointer (some ⟨g2, 0, none⟩)), (3, .pointer (some ⟨g8, 0, none⟩)), (113, .agg #[.string su, .string bo, .slice A0 ps.length c0]), (115, .agg #[.string su2, .string bo2, .slice A1 qs.length c1]), (117, .agg #[.string su, .string bo, .slice Aq ((ps ++ qs).length) cq])] ∧ Own w w_ [Bk g560 [J 0, J 0, J 0, J 0, J 0, J 0, J 0, J 0] 31, Bk g284 [.string su, .string bo, .slice A260 ((ps ++ qs).length) c261] 24, Bk gq [.string su, .string bo, .slice Aq ((ps ++ qs).length) cq] 24, Chunk.frz wq Sq, Bk g8 [.string su2, .string bo2, .slice A1 qs.length c1] 24, Bk g2 [.string su, .string bo, .slice A0 ps.length c0] 24, Chunk.frz wz262 S263]) #[true, true, true, true, true, true, true, false, false, false, false, false] 5 ?_ fun J1035 => ?_
 ·
  rintro _ w1037 ⟨g560, H1038, O1039⟩
  refine gx_two 7 8 rfl rfl (by kernel_rfl) ?_ ?_
  ·
   refine gw_new H1038 O1039 (want_none rfl) rfl (by decide) (op_alloc gwzer31 rfl) ?_
   intro g1040 _ w1042 H1043 O1044; clear H1038 O1039
   have O1045 : Own w w1042 [Bk g1040 [J 0, J 0, J 0, J 0, J 0, J 0, J 0, J 0] 31, Bk g560 [J 0, J 0, J 0, J 0, J 0, J 0, J 0, J 0] 31, Bk g284 [.string su, .string bo, .slice A260 ((ps ++ qs).length) c261] 24, Bk gq [.string su, .string bo, .slice Aq ((ps ++ qs).length) cq] 24, Chunk.frz wq Sq, Bk g8 [.string su2, .string bo2, .slice A1 qs.length c1] 24, Bk g2 [.string su, .string bo, .slice A0 ps.length c0] 24, Chunk.frz wz262 S263] := O1044
   clear O1044
   refine gx_on (i := 7) (B := (fun j_ => false)) (fun _ => (by exact O1045.sel [2, 3, 4, 5, 6, 7] (by decide))) ?_
   exact J990 _ _ ⟨g560, g1040, (H1043.pick (t := 114) rfl (H1043.pick (t := 116) rfl (H1043.pick (t := 118) rfl (H1043.pick (t := 12) rfl (H1043.pick (t := 13) rfl (H1043.pick (t := 5) rfl (H1043.pick (t := 2) rfl (H1043.pick (t := 3) rfl (H1043.pick (t := 113) rfl (H1043.pick (t := 115) rfl (H1043.pick (t := 117) rfl H1043.nil))))))))))), O1045.sel [1, 0, 2, 3, 4, 5, 6, 7] (by decide)⟩
  refine gw_new H1038 O1039 (want_none rfl) rfl (by decide) (op_alloc gwzer31 rfl) ?_
  intro g1046 _ w1048 H1049 O1050; clear H1038 O1039
  have O1051 : Own w w1048 [Bk g1046 [J 0, J 0, J 0, J 0, J 0, J 0, J 0, J 0] 31, Bk g560 [J 0, J 0, J 0, J 0, J 0, J 0, J 0, J 0] 31, Bk g284 [.string su, .string bo, .slice A260 ((ps ++ qs).length) c261] 24, Bk gq [.string su, .string bo, .slice Aq ((ps ++ qs).length) cq] 24, Chunk.frz wq Sq, Bk g8 [.string su2, .string bo2, .slice A1 qs.length c1] 24, Bk g2 [.string su, .string bo, .slice A0 ps.length c0] 24, Chunk.frz wz262 S263] := O1050
  clear O1050
  refine gx_on (i := 8) (B := (fun j_ => false)) (fun _ => (by exact O1051.sel [2, 3, 4, 5, 6, 7] (by decide))) ?_
  exact J1001 _ _ ⟨g560, g1046, (H1049.pick (t := 114) rfl (H1049.pick (t := 116) rfl (H1049.pick (t := 118) rfl (H1049.pick (t := 12) rfl (H1049.pick (t := 14) rfl (H1049.pick (t := 5) rfl (H1049.pick (t := 2) rfl (H1049.pick (t := 3) rfl (H1049.pick (t := 113) rfl (H1049.pick (t := 115) rfl (H1049.pick (t := 117) rfl H1049.nil))))))))))), O1051.sel [1, 0, 2, 3, 4, 5, 6, 7] (by decide)⟩
 refine gx_cut (fun a_ w_ => ∃ g566 : Nat, Fr 134 a_ [(114, .agg #[J (totL ps 0), J (totL ps 1), J (totL ps 2), J (totL ps 3), J (totL ps 4), J (totL ps 5), J (totL ps 6), J (totL ps 7)]), (116, .agg #[J (totL qs 0), J (totL qs 1), J (totL qs 2), J (totL qs 3), J (totL qs 4), J (totL qs 5), J (totL qs 6), J (totL qs 7)]), (118, .agg #[J (totL (ps ++ qs) 0), J (totL (ps ++ qs) 1), J (totL (ps ++ qs) 2), J (totL (ps ++ qs) 3), J (totL (ps ++ qs) 4), J (totL (ps ++ qs) 5), J (totL (ps ++ qs) 6), J (totL (ps ++ qs) 7)]), (13, .pointer (some ⟨g566, 0, none⟩)), (5, .pointer (some ⟨gq, 0, none⟩)), (2, .pointer (some ⟨g2, 0, none⟩)), (3, .pointer (some ⟨g8, 0, none⟩)), (113, .agg #[.string su, .string bo, .slice A0 ps.length c0]), (115, .agg #[.string su2, .string bo2, .slice A1 qs.length c1]), (117, .agg #[.string su, .string bo, .slice Aq ((ps ++ qs).length) cq])] ∧ Own w w_ [Bk g566 [J 0, J 0, J 0, J 0, J 0, J 0, J 0, J 0] 31, Bk g284 [.string su, .string bo, .slice A260 ((ps ++ qs).length) c261] 24, Bk gq [.string su, .string bo, .slice Aq ((ps ++ qs).length) cq] 24, Chunk.frz wq Sq, Bk g8 [.string su2, .string bo2, .slice A1 qs.length c1] 24, Bk g2 [.string su, .string bo, .slice A0 ps.length c0] 24, Chunk.frz wz262 S263]) #[true, true, true, true, true, true, false, true, false, false, false, false] 5 ?_ fun J1052 => ?_
 ·
  rintro _ w1054 ⟨g566, H1055, O1056⟩
  refine gx_two 6 8 rfl rfl (by kernel_rfl) ?_ ?_
  ·
   refine gw_new H1055 O1056 (want_none rfl) rfl (by decide) (op_alloc gwzer31 rfl) ?_
   intro g1057 _ w1059 H1060 O1061; clear H1055 O1056
   have O1062 : Own w w1059 [Bk g1057 [J 0, J 0, J 0, J 0, J 0, J 0, J 0, J 0] 31, Bk g566 [J 0, J 0, J 0, J 0, J 0, J 0, J 0, J 0] 31, Bk g284 [.string su, .string bo, .slice A260 ((ps ++ qs).length) c261] 24, Bk gq [.string su, .string bo, .slice Aq ((ps ++ qs).length) cq] 24, Chunk.frz wq Sq, Bk g8 [.string su2, .string bo2, .slice A1 qs.length c1] 24, Bk g2 [.string su, .string bo, .slice A0 ps.length c0] 24, Chunk.frz wz262 S263] := O1061
   clear O1061
   refine gx_on (i := 6) (B := (fun j_ => false)) (fun _ => (by exact O1062.sel [2, 3, 4, 5, 6, 7] (by decide))) ?_
   exact J990 _ _ ⟨g1057, g566, (H1060.pick (t := 114) rfl (H1060.pick (t := 116) rfl (H1060.pick (t := 118) rfl (H1060.pick (t := 12) rfl (H1060.pick (t := 13) rfl (H1060.pick (t := 5) rfl (H1060.pick (t := 2) rfl (H1060.pick (t := 3) rfl (H1060.pick (t := 113) rfl (H1060.pick (t := 115) rfl (H1060.pick (t := 117) rfl H1060.nil))))))))))), O1062.sel [0, 1, 2, 3, 4, 5, 6, 7] (by decide)⟩
  refine gw_new H1055 O1056 (want_none rfl) rfl (by decide) (op_alloc gwzer31 rfl) ?_
  intro g1063 _ w1065 H1066 O1067; clear H1055 O1056
  have O1068 : Own w w1065 [Bk g1063 [J 0, J 0, J 0, J 0, J 0, J 0, J 0, J 0] 31, Bk g566 [J 0, J 0, J 0, J 0, J 0, J 0, J 0, J 0] 31, Bk g284 [.string su, .string bo, .slice A260 ((ps ++ qs).length) c261] 24, Bk gq [.string su, .string bo, .slice Aq ((ps ++ qs).length) cq] 24, Chunk.frz wq Sq, Bk g8 [.string su2, .string bo2, .slice A1 qs.length c1] 24, Bk g2 [.string su, .string bo, .slice A0 ps.length c0] 24, Chunk.frz wz262 S263] := O1067
  clear O1067
  refine gx_on (i := 8) (B := (fun j_ => false)) (fun _ => (by exact O1068.sel [2, 3, 4, 5, 6, 7] (by decide))) ?_
  exact J1012 _ _ ⟨g566, g1063, (H1066.pick (t := 114) rfl (H1066.pick (t := 116) rfl (H1066.pick (t := 118) rfl (H1066.pick (t := 13) rfl (H1066.pick (t := 14) rfl (H1066.pick (t := 5) rfl (H1066.pick (t := 2) rfl (H1066.pick (t := 3) rfl (H1066.pick (t := 113) rfl (H1066.pick (t := 115) rfl (H1066.pick (t := 117) rfl H1066.nil))))))))))), O1068.sel [1, 0, 2, 3, 4, 5, 6, 7] (by decide)⟩
 refine gx_cut (fun a_ w_ => ∃ g572 : Nat, Fr 134 a_ [(114, .agg #[J (totL ps 0), J (totL ps 1), J (totL ps 2), J (totL ps 3), J (totL ps 4), J (totL ps 5), J (totL ps 6), J (totL ps 7)]), (116, .agg #[J (totL qs 0), J (totL qs 1), J (totL qs 2), J (totL qs 3), J (totL qs 4), J (totL qs 5), J (totL qs 6), J (totL qs 7)]), (118, .agg #[J (totL (ps ++ qs) 0), J (totL (ps ++ qs) 1), J (totL (ps ++ qs) 2), J (totL (ps ++ qs) 3), J (totL (ps ++ qs) 4), J (totL (ps ++ qs) 5), J (totL (ps ++ qs) 6), J (totL (ps ++ qs) 7)]), (14, .pointer (some ⟨g572, 0, none⟩)), (5, .pointer (some ⟨gq, 0, none⟩)), (2, .pointer (some ⟨g2, 0, none⟩)), (3, .pointer (some ⟨g8, 0, none⟩)), (113, .agg #[.string su, .string bo, .slice A0 ps.length c0]), (115, .agg #[.string su2, .string bo2, .slice A1 qs.length c1]), (117, .agg #[.string su, .string bo, .slice Aq ((ps ++ qs).length) cq])] ∧ Own w w_ [Bk g572 [J 0, J 0, J 0, J 0, J 0, J 0, J 0, J 0] 31, Bk g284 [.string su, .string bo, .slice A260 ((ps ++ qs).length) c261] 24, Bk gq [.string su, .string bo, .slice Aq ((ps ++ qs).length) cq] 24, Chunk.frz wq Sq, Bk g8 [.string su2, .string bo2, .slice A1 qs.length c1] 24, Bk g2 [.string su, .string bo, .slice A0 ps.length c0] 24, Chunk.frz wz262 S263]) #[true, true, true, true, true, true, false, false, true, false, false, false] 5 ?_ fun J1069 => ?_
 ·
  rintro _ w1071 ⟨g572, H1072, O1073⟩
  refine gx_two 6 7 rfl rfl (by kernel_rfl) ?_ ?_
  ·
   refine gw_new H1072 O1073 (want_none rfl) rfl (by decide) (op_alloc gwzer31 rfl) ?_
   intro g1074 _ w1076 H1077 O1078; clear H1072 O1073
   have O1079 : Own w w1076 [Bk g1074 [J 0, J 0, J 0, J 0, J 0, J 0, J 0, J 0] 31, Bk g572 [J 0, J 0, J 0, J 0, J 0, J 0, J 0, J 0] 31, Bk g284 [.string su, .string bo, .slice A260 ((ps ++ qs).length) c261] 24, Bk gq [.string su, .string bo, .slice Aq ((ps ++ qs).length) cq] 24, Chunk.frz wq Sq, Bk g8 [.string su2, .string bo2, .slice A1 qs.length c1] 24, Bk g2 [.string su, .string bo, .slice A0 ps.length c0] 24, Chunk.frz wz262 S263] := O1078
   clear O1078
   refine gx_on (i := 6) (B := (fun j_ => false)) (fun _ => (by exact O1079.sel [2, 3, 4, 5, 6, 7] (by decide))) ?_
   exact J1001 _ _ ⟨g1074, g572, (H1077.pick (t := 114) rfl (H1077.pick (t := 116) rfl (H1077.pick (t := 118) rfl (H1077.pick (t := 12) rfl (H1077.pick (t := 14) rfl (H1077.pick (t := 5) rfl (H1077.pick (t := 2) rfl (H1077.pick (t := 3) rfl (H1077.pick (t := 113) rfl (H1077.pick (t := 115) rfl (H1077.pick (t := 117) rfl H1077.nil))))))))))), O1079.sel [0, 1, 2, 3, 4, 5, 6, 7] (by decide)⟩
  refine gw_new H1072 O1073 (want_none rfl) rfl (by decide) (op_alloc gwzer31 rfl) ?_
  intro g1080 _ w1082 H1083 O1084; clear H1072 O1073
  have O1085 : Own w w1082 [Bk g1080 [J 0, J 0, J 0, J 0, J 0, J 0, J 0, J 0] 31, Bk g572 [J 0, J 0, J 0, J 0, J 0, J 0, J 0, J 0] 31, Bk g284 [.string su, .string bo, .slice A260 ((ps ++ qs).length) c261] 24, Bk gq [.string su, .string bo, .slice Aq ((ps ++ qs).length) cq] 24, Chunk.frz wq Sq, Bk g8 [.string su2, .string bo2, .slice A1 qs.length c1] 24, Bk g2 [.string su, .string bo, .slice A0 ps.length c0] 24, Chunk.frz wz262 S263] := O1084
  clear O1084
  refine gx_on (i := 7) (B := (fun j_ => false)) (fun _ => (by exact O1085.sel [2, 3, 4, 5, 6, 7] (by decide))) ?_
  exact J1012 _ _ ⟨g1080, g572, (H1083.pick (t := 114) rfl (H1083.pick (t := 116) rfl (H1083.pick (t := 118) rfl (H1083.pick (t := 13) rfl (H1083.pick (t := 14) rfl (H1083.pick (t := 5) rfl (H1083.pick (t := 2) rfl (H1083.pick (t := 3) rfl (H1083.pick (t := 113) rfl (H1083.pick (t := 115) rfl (H1083.pick (t := 117) rfl H1083.nil))))))))))), O1085.sel [0, 1, 2, 3, 4, 5, 6, 7] (by decide)⟩
 refine gx_cut (fun a_ w_ => ∃ g560 g566 : Nat, Fr 134 a_ [(114, .agg #[J (totL ps 0), J (totL ps 1), J (totL ps 2), J (totL ps 3), J (totL ps 4), J (totL ps 5), J (totL ps 6), J (totL ps 7)]), (116, .agg #[J (totL qs 0), J (totL qs 1), J (totL qs 2), J (totL qs 3), J (totL qs 4), J (totL qs 5), J (totL qs 6), J (totL qs 7)]), (12, .pointer (some ⟨g560, 0, none⟩)), (13, .pointer (some ⟨g566, 0, none⟩)), (5, .pointer (some ⟨gq, 0, none⟩)), (2, .pointer (some ⟨g2, 0, none⟩)), (3, .pointer (some ⟨g8, 0, none⟩)), (113, .agg #[.string su, .string bo, .slice A0 ps.length c0]), (115, .agg #[.string su2, .string bo2, .slice A1 qs.length c1]), (117, .agg #[.string su, .string bo, .slice Aq ((ps ++ qs).length) cq])] ∧ Own w w_ [Bk g560 [J 0, J 0, J 0, J 0, J 0, J 0, J 0, J 0] 31, Bk g566 [J 0, J 0, J 0, J 0, J 0, J 0, J 0, J 0] 31, Bk g284 [.string su, .string bo, .slice A260 ((ps ++ qs).length) c261] 24, Bk gq [.string su, .string bo, .slice Aq ((ps ++ qs).length) cq] 24, Chunk.frz wq Sq, Bk g8 [.string su2, .string bo2, .slice A1 qs.length c1] 24, Bk g2 [.string su, .string bo, .slice A0 ps.length c0] 24, Chunk.frz wz262 S263]) #[true, true, true, true, true, false, true, true, false, false, false, false] 5 ?_ fun J1086 => ?_
 ·
  rintro _ w1088 ⟨g560, g566, H1089, O1090⟩
  refine gx_two 5 8 rfl rfl (by kernel_rfl) ?_ ?_
  ·
   refine Wk H1089 Tryd.func12 rfl (ar_cons (H1089.ev rfl) ar_nil) (totals_calls su bo Aq cq (ps ++ qs) _ (frz_C (i := 4) O1090 rfl hbq hFq) hlq (by omega)) ?_
   rintro e1091 w1092 ⟨rfl, hb1093⟩
   refine ⟨_, rfl, fun _ H1095 => ?_⟩
   have O1096 := O1090.after hb1093
   clear H1089 O1090 hb1093
   refine gx_on (i := 5) (B := (fun j_ => false)) (fun _ => (by exact O1096.sel [2, 3, 4, 5, 6, 7] (by decide))) ?_
   exact J990 _ _ ⟨g560, g566, (H1095.pick (t := 114) rfl (H1095.pick (t := 116) rfl (H1095.pick (t := 118) rfl (H1095.pick (t := 12) rfl (H1095.pick (t := 13) rfl (H1095.pick (t := 5) rfl (H1095.pick (t := 2) rfl (H1095.pick (t := 3) rfl (H1095.pick (t := 113) rfl (H1095.pick (t := 115) rfl (H1095.pick (t := 117) rfl H1095.nil))))))))))), O1096.sel [0, 1, 2, 3, 4, 5, 6, 7] (by decide)⟩
  refine gw_new H1089 O1090 (want_none rfl) rfl (by decide) (op_alloc gwzer31 rfl) ?_
  intro g1098 _ w1100 H1101 O1102; clear H1089 O1090
  have O1103 : Own w w1100 [Bk g1098 [J 0, J 0, J 0, J 0, J 0, J 0, J 0, J 0] 31, Bk g560 [J 0, J 0, J 0, J 0, J 0, J 0, J 0, J 0] 31, Bk g566 [J 0, J 0, J 0, J 0, J 0, J 0, J 0, J 0] 31, Bk g284 [.string su, .string bo, .slice A260 ((ps ++ qs).length) c261] 24, Bk gq [.string su, .string bo, .slice Aq ((ps ++ qs).length) cq] 24, Chunk.frz wq Sq, Bk g8 [.string su2, .string bo2, .slice A1 qs.length c1] 24, Bk g2 [.string su, .string bo, .slice A0 ps.length c0] 24, Chunk.frz wz262 S263] := O1102
  clear O1102
  refine gx_on (i := 8) (B := (fun j_ => false)) (fun _ => (by exact O1103.sel [3, 4, 5, 6, 7, 8] (by decide))) ?_
  exact J1023 _ _ ⟨g560, g566, g1098, (H1101.pick (t := 114) rfl (H1101.pick (t := 116) rfl (H1101.pick (t := 12) rfl (H1101.pick (t := 13) rfl (H1101.pick (t := 14) rfl (H1101.pick (t := 5) rfl (H1101.pick (t := 2) rfl (H1101.pick (t := 3) rfl (H1101.pick (t := 113) rfl (H1101.pick (t := 115) rfl (H1101.pick (t := 117) rfl H1101.nil))))))))))), O1103.sel [1, 2, 0, 3, 4, 5, 6, 7, 8] (by decide)⟩
 refine gx_cut (fun a_ w_ => ∃ g560 g572 : Nat, Fr 134 a_ [(114, .agg #[J (totL ps 0), J (totL ps 1), J (totL ps 2), J (totL ps 3), J (totL ps 4), J (totL ps 5), J (totL ps 6), J (totL ps 7)]), (116, .agg #[J (totL qs 0), J (totL qs 1), J (totL qs 2), J (totL qs 3), J (totL qs 4), J (totL qs 5), J (totL qs 6), J (totL qs 7)]), (12, .pointer (some ⟨g560, 0, none⟩)), (14, .pointer (some ⟨g572, 0, none⟩)), (5, .pointer (some ⟨gq, 0, none⟩)), (2, .pointer (some ⟨g2, 0, none⟩)), (3, .pointer (some ⟨g8, 0, none⟩)), (113, .agg #[.string su, .string bo, .slice A0 ps.length c0]), (115, .agg #[.string su2, .string bo2, .slice A1 qs.length c1]), (117, .agg #[.string su, .string bo, .slice Aq ((ps ++ qs).length) cq])] ∧ Own w w_ [Bk g560 [J 0, J 0, J 0, J 0, J 0, J 0, J 0, J 0] 31, Bk g572 [J 0, J 0, J 0, J 0, J 0, J 0, J 0, J 0] 31, Bk g284 [.string su, .string bo, .slice A260 ((ps ++ qs).length) c261] 24, Bk gq [.string su, .string bo, .slice Aq ((ps ++ qs).length) cq] 24, Chunk.frz wq Sq, Bk g8 [.string su2, .string bo2, .slice A1 qs.length c1] 24, Bk g2 [.string su, .string bo, .slice A0 ps.length c0] 24, Chunk.frz wz262 S263]) #[true, true, true, true, true, false, true, false, true, false, false, false] 5 ?_ fun J1104 => ?_
 ·
  rintro _ w1106 ⟨g560, g572, H1107, O1108⟩
  refine gx_two 5 7 rfl rfl (by kernel_rfl) ?_ ?_
  ·
   refine Wk H1107 Tryd.func12 rfl (ar_cons (H1107.ev rfl) ar_nil) (totals_calls su bo Aq cq (ps ++ qs) _ (frz_C (i := 4) O1108 rfl hbq hFq) hlq (by omega)) ?_
   rintro e1109 w1110 ⟨rfl, hb1111⟩
   refine ⟨_, rfl, fun _ H1113 => ?_⟩
   have O1114 := O1108.after hb1111
   clear H1107 O1108 hb1111
   refine gx_on (i := 5) (B := (fun j_ => false)) (fun _ => (by exact O1114.sel [2, 3, 4, 5, 6, 7] (by decide))) ?_
   exact J1001 _ _ ⟨g560, g572, (H1113.pick (t := 114) rfl (H1113.pick (t := 116) rfl (H1113.pick (t := 118) rfl (H1113.pick (t := 12) rfl (H1113.pick (t := 14) rfl (H1113.pick (t := 5) rfl (H1113.pick (t := 2) rfl (H1113.pick (t := 3) rfl (H1113.pick (t := 113) rfl (H1113.pick (t := 115) rfl (H1113.pick (t := 117) rfl H1113.nil))))))))))), O1114.sel [0, 1, 2, 3, 4, 5, 6, 7] (by decide)⟩
  refine gw_new H1107 O1108 (want_none rfl) rfl (by decide) (op_alloc gwzer31 rfl) ?_
  intro g1116 _ w1118 H1119 O1120; clear H1107 O1108
  have O1121 : Own w w1118 [Bk g1116 [J 0, J 0, J 0, J 0, J 0, J 0, J 0, J 0] 31, Bk g560 [J 0, J 0, J 0, J 0, J 0, J 0, J 0, J 0] 31, Bk g572 [J 0, J 0, J 0, J 0, J 0, J 0, J 0, J 0] 31, Bk g284 [.string su, .string bo, .slice A260 ((ps ++ qs).length) c261] 24, Bk gq [.string su, .string bo, .slice Aq ((ps ++ qs).length) cq] 24, Chunk.frz wq Sq, Bk g8 [.string su2, .string bo2, .slice A1 qs.length c1] 24, Bk g2 [.string su, .string bo, .slice A0 ps.length c0] 24, Chunk.frz wz262 S263] := O1120
  clear O1120
  refine gx_on (i := 7) (B := (fun j_ => false)) (fun _ => (by exact O1121.sel [3, 4, 5, 6, 7, 8] (by decide))) ?_
  exact J1023 _ _ ⟨g560, g1116, g572, (H1119.pick (t := 114) rfl (H1119.pick (t := 116) rfl (H1119.pick (t := 12) rfl (H1119.pick (t := 13) rfl (H1119.pick (t := 14) rfl (H1119.pick (t := 5) rfl (H1119.pick (t := 2) rfl (H1119.pick (t := 3) rfl (H1119.pick (t := 113) rfl (H1119.pick (t := 115) rfl (H1119.pick (t := 117) rfl H1119.nil))))))))))), O1121.sel [1, 0, 2, 3, 4, 5, 6, 7, 8] (by decide)⟩
 refine gx_cut (fun a_ w_ => ∃ g566 g572 : Nat, Fr 134 a_ [(114, .agg #[J (totL ps 0), J (totL ps 1), J (totL ps 2), J (totL ps 3), J (totL ps 4), J (totL ps 5), J (totL ps 6), J (totL ps 7)]), (116, .agg #[J (totL qs 0), J (totL qs 1), J (totL qs 2), J (totL qs 3), J (totL qs 4), J (totL qs 5), J (totL qs 6), J (totL qs 7)]), (13, .pointer (some ⟨g566, 0, none⟩)), (14, .pointer (some ⟨g572, 0, none⟩)), (5, .pointer (some ⟨gq, 0, none⟩)), (2, .pointer (some ⟨g2, 0, none⟩)), (3, .pointer (some ⟨g8, 0, none⟩)), (113, .agg #[.string su, .string bo, .slice A0 ps.length c0]), (115, .agg #[.string su2, .string bo2, .slice A1 qs.length c1]), (117, .agg #[.string su, .string bo, .slice Aq ((ps ++ qs).length) cq])] ∧ Own w w_ [Bk g566 [J 0, J 0, J 0, J 0, J 0, J 0, J 0, J 0] 31, Bk g572 [J 0, J 0, J 0, J 0, J 0, J 0, J 0, J 0] 31, Bk g284 [.string su, .string bo, .slice A260 ((ps ++ qs).length) c261] 24, Bk gq [.string su, .string bo, .slice Aq ((ps ++ qs).length) cq] 24, Chunk.frz wq Sq, Bk g8 [.string su2, .string bo2, .slice A1 qs.length c1] 24, Bk g2 [.string su, .string bo, .slice A0 ps.length c0] 24, Chunk.frz wz262 S263]) #[true, true, true, true, true, false, false, true, true, false, false, false] 5 ?_ fun J1122 => ?_
 ·
  rintro _ w1124 ⟨g566, g572, H1125, O1126⟩
  refine gx_two 5 6 rfl rfl (by kernel_rfl) ?_ ?_
  ·
   refine Wk H1125 Tryd.func12 rfl (ar_cons (H1125.ev rfl) ar_nil) (totals_calls su bo Aq cq (ps ++ qs) _ (frz_C (i := 4) O1126 rfl hbq hFq) hlq (by omega)) ?_
   rintro e1127 w1128 ⟨rfl, hb1129⟩
   refine ⟨_, rfl, fun _ H1131 => ?_⟩
   have O1132 := O1126.after hb1129
   clear H1125 O1126 hb1129
   refine gx_on (i := 5) (B := (fun j_ => false)) (fun _ => (by exact O1132.sel [2, 3, 4, 5, 6, 7] (by decide))) ?_
   exact J1012 _ _ ⟨g566, g572, (H1131.pick (t := 114) rfl (H1131.pick (t := 116) rfl (H1131.pick (t := 118) rfl (H1131.pick (t := 13) rfl (H1131.pick (t := 14) rfl (H1131.pick (t := 5) rfl (H1131.pick (t := 2) rfl (H1131.pick (t := 3) rfl (H1131.pick (t := 113) rfl (H1131.pick (t := 115) rfl (H1131.pick (t := 117) rfl H1131.nil))))))))))), O1132.sel [0, 1, 2, 3, 4, 5, 6, 7] (by decide)⟩
  refine gw_new H1125 O1126 (want_none rfl) rfl (by decide) (op_alloc gwzer31 rfl) ?_
  intro g1134 _ w1136 H1137 O1138; clear H1125 O1126
  have O1139 : Own w w1136 [Bk g1134 [J 0, J 0, J 0, J 0, J 0, J 0, J 0, J 0] 31, Bk g566 [J 0, J 0, J 0, J 0, J 0, J 0, J 0, J 0] 31, Bk g572 [J 0, J 0, J 0, J 0, J 0, J 0, J 0, J 0] 31, Bk g284 [.string su, .string bo, .slice A260 ((ps ++ qs).length) c261] 24, Bk gq [.string su, .string bo, .slice Aq ((ps ++ qs).length) cq] 24, Chunk.frz wq Sq, Bk g8 [.string su2, .string bo2, .slice A1 qs.length c1] 24, Bk g2 [.string su, .string bo, .slice A0 ps.length c0] 24, Chunk.frz wz262 S263] := O1138
  clear O1138
  refine gx_on (i := 6) (B := (fun j_ => false)) (fun _ => (by exact O1139.sel [3, 4, 5, 6, 7, 8] (by decide))) ?_
  exact J1023 _ _ ⟨g1134, g566, g572, (H1137.pick (t := 114) rfl (H1137.pick (t := 116) rfl (H1137.pick (t := 12) rfl (H1137.pick (t := 13) rfl (H1137.pick (t := 14) rfl (H1137.pick (t := 5) rfl (H1137.pick (t := 2) rfl (H1137.pick (t := 3) rfl (H1137.pick (t := 113) rfl (H1137.pick (t := 115) rfl (H1137.pick (t := 117) rfl H1137.nil))))))))))), O1139.sel [0, 1, 2, 3, 4, 5, 6, 7, 8] (by decide)⟩
 refine gx_cut (fun a_ w_ => ∃ g560 g566 g572 : Nat, Fr 134 a_ [(114, .agg #[J (totL ps 0), J (totL ps 1), J (totL ps 2), J (totL ps 3), J (totL ps 4), J (totL ps 5), J (totL ps 6), J (totL ps 7)]), (12, .pointer (some ⟨g560, 0, none⟩)), (13, .pointer (some ⟨g566, 0, none⟩)), (14, .pointer (some ⟨g572, 0, none⟩)), (5, .pointer (some ⟨gq, 0, none⟩)), (2, .pointer (some ⟨g2, 0, none⟩)), (3, .pointer (some ⟨g8, 0, none⟩)), (113, .agg #[.string su, .string bo, .slice A0 ps.length c0]), (115, .agg #[.string su2, .string bo2, .slice A1 qs.length c1]), (117, .agg #[.string su, .string bo, .slice Aq ((ps ++ qs).length) cq])] ∧ Own w w_ [Bk g560 [J 0, J 0, J 0, J 0, J 0, J 0, J 0, J 0] 31, Bk g566 [J 0, J 0, J 0, J 0, J 0, J 0, J 0, J 0] 31, Bk g572 [J 0, J 0, J 0, J 0, J 0, J 0, J 0, J 0] 31, Bk g284 [.string su, .string bo, .slice A260 ((ps ++ qs).length) c261] 24, Bk gq [.string su, .string bo, .slice Aq ((ps ++ qs).length) cq] 24, Chunk.frz wq Sq, Bk g8 [.string su2, .string bo2, .slice A1 qs.length c1] 24, Bk g2 [.string su, .string bo, .slice A0 ps.length c0] 24, Chunk.frz wz262 S263]) #[true, true, true, false, true, false, true, true, true, false, false, false] 5 ?_ fun J1140 => ?_
 ·
  rintro _ w1142 ⟨g560, g566, g572, H1143, O1144⟩
  refine gx_step 3 rfl (by kernel_rfl) ?_
  refine Wk H1143 Tryd.func12 rfl (ar_cons (H1143.ev rfl) ar_nil) (totals_calls su2 bo2 A1 c1 qs _ (Kd.C_below hr1 O1144.below) hc1 (by omega)) ?_
  rintro e1145 w1146 ⟨rfl, hb1147⟩
  refine ⟨_, rfl, fun _ H1149 => ?_⟩
  have O1150 := O1144.after hb1147
  clear H1143 O1144 hb1147
  refine gx_on (i := 3) (B := (fun j_ => false)) (fun _ => (by exact O1150.sel [3, 4, 5, 6, 7, 8] (by decide))) ?_
  exact J1023 _ _ ⟨g560, g566, g572, (H1149.pick (t := 114) rfl (H1149.pick (t := 116) rfl (H1149.pick (t := 12) rfl (H1149.pick (t := 13) rfl (H1149.pick (t := 14) rfl (H1149.pick (t := 5) rfl (H1149.pick (t := 2) rfl (H1149.pick (t := 3) rfl (H1149.pick (t := 113) rfl (H1149.pick (t := 115) rfl (H1149.pick (t := 117) rfl H1149.nil))))))))))), O1150.sel [0, 1, 2, 3, 4, 5, 6, 7, 8] (by decide)⟩
 refine gx_cut (fun a_ w_ => Fr 134 a_ [(114, .agg #[J (totL ps 0), J (totL ps 1), J (totL ps 2), J (totL ps 3), J (totL ps 4), J (totL ps 5), J (totL ps 6), J (totL ps 7)]), (116, .agg #[J (totL qs 0), J (totL qs 1), J (totL qs 2), J (totL qs 3), J (totL qs 4), J (totL qs 5), J (totL qs 6), J (totL qs 7)]), (118, .agg #[J (totL (ps ++ qs) 0), J (totL (ps ++ qs) 1), J (totL (ps ++ qs) 2), J (totL (ps ++ qs) 3), J (totL (ps ++ qs) 4), J (totL (ps ++ qs) 5), J (totL (ps ++ qs) 6), J (totL (ps ++ qs) 7)]), (5, .pointer (some ⟨gq, 0, none⟩)), (2, .pointer (some ⟨g2, 0, none⟩)), (3, .pointer (some ⟨g8, 0, none⟩)), (113, .agg #[.string su, .string bo, .slice A0 ps.length c0]), (115, .agg #[.string su2, .string bo2, .slice A1 qs.length c1]), (117, .agg #[.string su, .string bo, .slice Aq ((ps ++ qs).length) cq])] ∧ Own w w_ [Bk g284 [.string su, .string bo, .slice A260 ((ps ++ qs).length) c261] 24, Bk gq [.string su, .string bo, .slice Aq ((ps ++ qs).length) cq] 24, Chunk.frz wq Sq, Bk g8 [.string su2, .string bo2, .slice A1 qs.length c1] 24, Bk g2 [.string su, .string bo, .slice A0 ps.length c0] 24, Chunk.frz wz262 S263]) #[true, true, true, true, true, true, false, false, false, false, false, false] 6 ?_ fun J1152 => ?_
 ·
  rintro _ w1154 ⟨H1155, O1156⟩
  refine gx_step3 6 7 8 rfl rfl rfl (by kernel_rfl) ?_ ?_ ?_
  ·
   refine gw_new H1155 O1156 (want_none rfl) rfl (by decide) (op_alloc gwzer31 rfl) ?_
   intro g1157 _ w1159 H1160 O1161; clear H1155 O1156
   have O1162 : Own w w1159 [Bk g1157 [J 0, J 0, J 0, J 0, J 0, J 0, J 0, J 0] 31, Bk g284 [.string su, .string bo, .slice A260 ((ps ++ qs).length) c261] 24, Bk gq [.string su, .string bo, .slice Aq ((ps ++ qs).length) cq] 24, Chunk.frz wq Sq, Bk g8 [.string su2, .string bo2, .slice A1 qs.length c1] 24, Bk g2 [.string su, .string bo, .slice A0 ps.length c0] 24, Chunk.frz wz262 S263] := O1161
   clear O1161
   refine gx_on (i := 6) (B := (fun j_ => false)) (fun _ => (by exact O1162.sel [1, 2, 3, 4, 5, 6] (by decide))) ?_
   exact J1035 _ _ ⟨g1157, (H1160.pick (t := 114) rfl (H1160.pick (t := 116) rfl (H1160.pick (t := 118) rfl (H1160.pick (t := 12) rfl (H1160.pick (t := 5) rfl (H1160.pick (t := 2) rfl (H1160.pick (t := 3) rfl (H1160.pick (t := 113) rfl (H1160.pick (t := 115) rfl (H1160.pick (t := 117) rfl H1160.nil)))))))))), O1162.sel [0, 1, 2, 3, 4, 5, 6] (by decide)⟩
  ·
   refine gw_new H1155 O1156 (want_none rfl) rfl (by decide) (op_alloc gwzer31 rfl) ?_
   intro g1163 _ w1165 H1166 O1167; clear H1155 O1156
   have O1168 : Own w w1165 [Bk g1163 [J 0, J 0, J 0, J 0, J 0, J 0, J 0, J 0] 31, Bk g284 [.string su, .string bo, .slice A260 ((ps ++ qs).length) c261] 24, Bk gq [.string su, .string bo, .slice Aq ((ps ++ qs).length) cq] 24, Chunk.frz wq Sq, Bk g8 [.string su2, .string bo2, .slice A1 qs.length c1] 24, Bk g2 [.string su, .string bo, .slice A0 ps.length c0] 24, Chunk.frz wz262 S263] := O1167
   clear O1167
   refine gx_on (i := 7) (B := (fun j_ => false)) (fun _ => (by exact O1168.sel [1, 2, 3, 4, 5, 6] (by decide))) ?_
   exact J1052 _ _ ⟨g1163, (H1166.pick (t := 114) rfl (H1166.pick (t := 116) rfl (H1166.pick (t := 118) rfl (H1166.pick (t := 13) rfl (H1166.pick (t := 5) rfl (H1166.pick (t := 2) rfl (H1166.pick (t := 3) rfl (H1166.pick (t := 113) rfl (H1166.pick (t := 115) rfl (H1166.pick (t := 117) rfl H1166.nil)))))))))), O1168.sel [0, 1, 2, 3, 4, 5, 6] (by decide)⟩
  refine gw_new H1155 O1156 (want_none rfl) rfl (by decide) (op_alloc gwzer31 rfl) ?_
  intro g1169 _ w1171 H1172 O1173; clear H1155 O1156
  have O1174 : Own w w1171 [Bk g1169 [J 0, J 0, J 0, J 0, J 0, J 0, J 0, J 0] 31, Bk g284 [.string su, .string bo, .slice A260 ((ps ++ qs).length) c261] 24, Bk gq [.string su, .string bo, .slice Aq ((ps ++ qs).length) cq] 24, Chunk.frz wq Sq, Bk g8 [.string su2, .string bo2, .slice A1 qs.length c1] 24, Bk g2 [.string su, .string bo, .slice A0 ps.length c0] 24, Chunk.frz wz262 S263] := O1173
  clear O1173
  refine gx_on (i := 8) (B := (fun j_ => false)) (fun _ => (by exact O1174.sel [1, 2, 3, 4, 5, 6] (by decide))) ?_
  exact J1069 _ _ ⟨g1169, (H1172.pick (t := 114) rfl (H1172.pick (t := 116) rfl (H1172.pick (t := 118) rfl (H1172.pick (t := 14) rfl (H1172.pick (t := 5) rfl (H1172.pick (t := 2) rfl (H1172.pick (t := 3) rfl (H1172.pick (t := 113) rfl (H1172.pick (t := 115) rfl (H1172.pick (t := 117) rfl H1172.nil)))))))))), O1174.sel [0, 1, 2, 3, 4, 5, 6] (by decide)⟩
 refine gx_cut (fun a_ w_ => ∃ g560 : Nat, Fr 134 a_ [(114, .agg #[J (totL ps 0), J (totL ps 1), J (totL ps 2), J (totL ps 3), J (totL ps 4), J (totL ps 5), J (totL ps 6), J (totL ps 7)]), (116, .agg #[J (totL qs 0), J (totL qs 1), J (totL qs 2), J (totL qs 3), J (totL qs 4), J (totL qs 5), J (totL qs 6), J (totL qs 7)]), (12, .pointer (some ⟨g560, 0, none⟩)), (5, .pointer (some ⟨gq, 0, none⟩)), (2, .pointer (some ⟨g2, 0, none⟩)), (3, .pointer (some ⟨g8, 0, none⟩)), (113, .agg #[.string su, .string bo, .slice A0 ps.length c0]), (115, .agg #[.string su2, .string bo2, .slice A1 qs.length c1]), (117, .agg #[.string su, .string bo, .slice Aq ((ps ++ qs).length) cq])] ∧ Own w w_ [Bk g560 [J 0, J 0, J 0, J 0, J 0, J 0, J 0, J 0] 31, Bk g284 [.string su, .string bo, .slice A260 ((ps ++ qs).length) c261] 24, Bk gq [.string su, .string bo, .slice Aq ((ps ++ qs).length) cq] 24, Chunk.frz wq Sq, Bk g8 [.string su2, .string bo2, .slice A1 qs.length c1] 24, Bk g2 [.string su, .string bo, .slice A0 ps.length c0] 24, Chunk.frz wz262 S263]) #[true, true, true, true, true, false, true, false, false, false, false, false] 6 ?_ fun J1175 => ?_
 ·
  rintro _ w1177 ⟨g560, H1178, O1179⟩
  refine gx_step3 5 7 8 rfl rfl rfl (by kernel_rfl) ?_ ?_ ?_
  ·
   refine Wk H1178 Tryd.func12 rfl (ar_cons (H1178.ev rfl) ar_nil) (totals_calls su bo Aq cq (ps ++ qs) _ (frz_C (i := 3) O1179 rfl hbq hFq) hlq (by omega)) ?_
   rintro e1180 w1181 ⟨rfl, hb1182⟩
   refine ⟨_, rfl, fun _ H1184 => ?_⟩
   have O1185 := O1179.after hb1182
   clear H1178 O1179 hb1182
   refine gx_on (i := 5) (B := (fun j_ => false)) (fun _ => (by exact O1185.sel [1, 2, 3, 4, 5, 6] (by decide))) ?_
   exact J1035 _ _ ⟨g560, (H1184.pick (t := 114) rfl (H1184.pick (t := 116) rfl (H1184.pick (t := 118) rfl (H1184.pick (t := 12) rfl (H1184.pick (t := 5) rfl (H1184.pick (t := 2) rfl (H1184.pick (t := 3) rfl (H1184.pick (t := 113) rfl (H1184.pick (t := 115) rfl (H1184.pick (t := 117) rfl H1184.nil)))))))))), O1185.sel [0, 1, 2, 3, 4, 5, 6] (by decide)⟩
  ·
   refine gw_new H1178 O1179 (want_none rfl) rfl (by decide) (op_alloc gwzer31 rfl) ?_
   intro g1187 _ w1189 H1190 O1191; clear H1178 O1179
   have O1192 : Own w w1189 [Bk g1187 [J 0, J 0, J 0, J 0, J 0, J 0, J 0, J 0] 31, Bk g560 [J 0, J 0, J 0, J 0, J 0, J 0, J 0, J 0] 31, Bk g284 [.string su, .string bo, .slice A260 ((ps ++ qs).length) c261] 24, Bk gq [.string su, .string bo, .slice Aq ((ps ++ qs).length) cq] 24, Chunk.frz wq Sq, Bk g8 [.string su2, .string bo2, .slice A1 qs.length c1] 24, Bk g2 [.string su, .string bo, .slice A0 ps.length c0] 24, Chunk.frz wz262 S263] := O1191
   clear O1191
   refine gx_on (i := 7) (B := (fun j_ => false)) (fun _ => (by exact O1192.sel [2, 3, 4, 5, 6, 7] (by decide))) ?_
   exact J1086 _ _ ⟨g560, g1187, (H1190.pick (t := 114) rfl (H1190.pick (t := 116) rfl (H1190.pick (t := 12) rfl (H1190.pick (t := 13) rfl (H1190.pick (t := 5) rfl (H1190.pick (t := 2) rfl (H1190.pick (t := 3) rfl (H1190.pick (t := 113) rfl (H1190.pick (t := 115) rfl (H1190.pick (t := 117) rfl H1190.nil)))))))))), O1192.sel [1, 0, 2, 3, 4, 5, 6, 7] (by decide)⟩
  refine gw_new H1178 O1179 (want_none rfl) rfl (by decide) (op_alloc gwzer31 rfl) ?_
  intro g1193 _ w1195 H1196 O1197; clear H1178 O1179
  have O1198 : Own w w1195 [Bk g1193 [J 0, J 0, J 0, J 0, J 0, J 0, J 0, J 0] 31, Bk g560 [J 0, J 0, J 0, J 0, J 0, J 0, J 0, J 0] 31, Bk g284 [.string su, .string bo, .slice A260 ((ps ++ qs).length) c261] 24, Bk gq [.string su, .string bo, .slice Aq ((ps ++ qs).length) cq] 24, Chunk.frz wq Sq, Bk g8 [.string su2, .string bo2, .slice A1 qs.length c1] 24, Bk g2 [.string su, .string bo, .slice A0 ps.length c0] 24, Chunk.frz wz262 S263] := O1197
  clear O1197
  refine gx_on (i := 8) (B := (fun j_ => false)) (fun _ => (by exact O1198.sel [2, 3, 4, 5, 6, 7] (by decide))) ?_
  exact J1104 _ _ ⟨g560, g1193, (H1196.pick (t := 114) rfl (H1196.pick (t := 116) rfl (H1196.pick (t := 12) rfl (H1196.pick (t := 14) rfl (H1196.pick (t := 5) rfl (H1196.pick (t := 2) rfl (H1196.pick (t := 3) rfl (H1196.pick (t := 113) rfl (H1196.pick (t := 115) rfl (H1196.pick (t := 117) rfl H1196.nil)))))))))), O1198.sel [1, 0, 2, 3, 4, 5, 6, 7] (by decide)⟩
 refine gx_cut (fun a_ w_ => ∃ g566 : Nat, Fr 134 a_ [(114, .agg #[J (totL ps 0), J (totL ps 1), J (totL ps 2), J (totL ps 3), J (totL ps 4), J (totL ps 5), J (totL ps 6), J (totL ps 7)]), (116, .agg #[J (totL qs 0), J (totL qs 1), J (totL qs 2), J (totL qs 3), J (totL qs 4), J (totL qs 5), J (totL qs 6), J (totL qs 7)]), (13, .pointer (some ⟨g566, 0, none⟩)), (5, .pointer (some ⟨gq, 0, none⟩)), (2, .pointer (some ⟨g2, 0, none⟩)), (3, .pointer (some ⟨g8, 0, none⟩)), (113, .agg #[.string su, .string bo, .slice A0 ps.length c0]), (115, .agg #[.string su2, .string bo2, .slice A1 qs.length c1]), (117, .agg #[.string su, .string bo, .slice Aq ((ps ++ qs).length) cq])] ∧ Own w w_ [Bk g566 [J 0, J 0, J 0, J 0, J 0, J 0, J 0, J 0] 31, Bk g284 [.string su, .string bo, .slice A260 ((ps ++ qs).length) c261] 24, Bk gq [.string su, .string bo, .slice Aq ((ps ++ qs).length) cq] 24, Chunk.frz wq Sq, Bk g8 [.string su2, .string bo2, .slice A1 qs.length c1] 24, Bk g2 [.string su, .string bo, .slice A0 ps.length c0] 24, Chunk.frz wz262 S263]) #[true, true, true, true, true, false, false, true, false, false, false, false] 6 ?_ fun J1199 => ?_
 ·
  rintro _ w1201 ⟨g566, H1202, O1203⟩
  refine gx_step3 5 6 8 rfl rfl rfl (by kernel_rfl) ?_ ?_ ?_
  ·
   refine Wk H1202 Tryd.func12 rfl (ar_cons (H1202.ev rfl) ar_nil) (totals_calls su bo Aq cq (ps ++ qs) _ (frz_C (i := 3) O1203 rfl hbq hFq) hlq (by omega)) ?_
   rintro e1204 w1205 ⟨rfl, hb1206⟩
   refine ⟨_, rfl, fun _ H1208 => ?_⟩
   have O1209 := O1203.after hb1206
   clear H1202 O1203 hb1206
   refine gx_on (i := 5) (B := (fun j_ => false)) (fun _ => (by exact O1209.sel [1, 2, 3, 4, 5, 6] (by decide))) ?_
   exact J1052 _ _ ⟨g566, (H1208.pick (t := 114) rfl (H1208.pick (t := 116) rfl (H1208.pick (t := 118) rfl (H1208.pick (t := 13) rfl (H1208.pick (t := 5) rfl (H1208.pick (t := 2) rfl (H1208.pick (t := 3) rfl (H1208.pick (t := 113) rfl (H1208.pick (t := 115) rfl (H1208.pick (t := 117) rfl H1208.nil)))))))))), O1209.sel [0, 1, 2, 3, 4, 5, 6] (by decide)⟩
  ·
   refine gw_new H1202 O1203 (want_none rfl) rfl (by decide) (op_alloc gwzer31 rfl) ?_
   intro g1211 _ w1213 H1214 O1215; clear H1202 O1203
   have O1216 : Own w w1213 [Bk g1211 [J 0, J 0, J 0, J 0, J 0, J 0, J 0, J 0] 31, Bk g566 [J 0, J 0, J 0, J 0, J 0, J 0, J 0, J 0] 31, Bk g284 [.string su, .string bo, .slice A260 ((ps ++ qs).length) c261] 24, Bk gq [.string su, .string bo, .slice Aq ((ps ++ qs).length) cq] 24, Chunk.frz wq Sq, Bk g8 [.string su2, .string bo2, .slice A1 qs.length c1] 24, Bk g2 [.string su, .string bo, .slice A0 ps.length c0] 24, Chunk.frz wz262 S263] := O1215
   clear O1215
   refine gx_on (i := 6) (B := (fun j_ => false)) (fun _ => (by exact O1216.sel [2, 3, 4, 5, 6, 7] (by decide))) ?_
   exact J1086 _ _ ⟨g1211, g566, (H1214.pick (t := 114) rfl (H1214.pick (t := 116) rfl (H1214.pick (t := 12) rfl (H1214.pick (t := 13) rfl (H1214.pick (t := 5) rfl (H1214.pick (t := 2) rfl (H1214.pick (t := 3) rfl (H1214.pick (t := 113) rfl (H1214.pick (t := 115) rfl (H1214.pick (t := 117) rfl H1214.nil)))))))))), O1216.sel [0, 1, 2, 3, 4, 5, 6, 7] (by decide)⟩
  refine gw_new H1202 O1203 (want_none rfl) rfl (by decide) (op_alloc gwzer31 rfl) ?_
  intro g1217 _ w1219 H1220 O1221; clear H1202 O1203
  have O1222 : Own w w1219 [Bk g1217 [J 0, J 0, J 0, J 0, J 0, J 0, J 0, J 0] 31, Bk g566 [J 0, J 0, J 0, J 0, J 0, J 0, J 0, J 0] 31, Bk g284 [.string su, .string bo, .slice A260 ((ps ++ qs).length) c261] 24, Bk gq [.string su, .string bo, .slice Aq ((ps ++ qs).length) cq] 24, Chunk.frz wq Sq, Bk g8 [.string su2, .string bo2, .slice A1 qs.length c1] 24, Bk g2 [.string su, .string bo, .slice A0 ps.length c0] 24, Chunk.frz wz262 S263] := O1221
  clear O1221
  refine gx_on (i := 8) (B := (fun j_ => false)) (fun _ => (by exact O1222.sel [2, 3, 4, 5, 6, 7] (by decide))) ?_
  exact J1122 _ _ ⟨g566, g1217, (H1220.pick (t := 114) rfl (H1220.pick (t := 116) rfl (H1220.pick (t := 13) rfl (H1220.pick (t := 14) rfl (H1220.pick (t := 5) rfl (H1220.pick (t := 2) rfl (H1220.pick (t := 3) rfl (H1220.pick (t := 113) rfl (H1220.pick (t := 115) rfl (H1220.pick (t := 117) rfl H1220.nil)))))))))), O1222.sel [1, 0, 2, 3, 4, 5, 6, 7] (by decide)⟩
 refine gx_cut (fun a_ w_ => ∃ g572 : Nat, Fr 134 a_ [(114, .agg #[J (totL ps 0), J (totL ps 1), J (totL ps 2), J (totL ps 3), J (totL ps 4), J (totL ps 5), J (totL ps 6), J (totL ps 7)]), (116, .agg #[J (totL qs 0), J (totL qs 1), J (totL qs 2), J (totL qs 3), J (totL qs 4), J (totL qs 5), J (totL qs 6), J (totL qs 7)]), (14, .pointer (some ⟨g572, 0, none⟩)), (5, .pointer (some ⟨gq, 0, none⟩)), (2, .pointer (some ⟨g2, 0, none⟩)), (3, .pointer (some ⟨g8, 0, none⟩)), (113, .agg #[.string su, .string bo, .slice A0 ps.length c0]), (115, .agg #[.string su2, .string bo2, .slice A1 qs.length c1]), (117, .agg #[.string su, .string bo, .slice Aq ((ps ++ qs).length) cq])] ∧ Own w w_ [Bk g572 [J 0, J 0, J 0, J 0, J 0, J 0, J 0, J 0] 31, Bk g284 [.string su, .string bo, .slice A260 ((ps ++ qs).length) c261] 24, Bk gq [.string su, .string bo, .slice Aq ((ps ++ qs).length) cq] 24, Chunk.frz wq Sq, Bk g8 [.string su2, .string bo2, .slice A1 qs.length c1] 24, Bk g2 [.string su, .string bo, .slice A0 ps.length c0] 24, Chunk.frz wz262 S263]) #[true, true, true, true, true, false, false, false, true, false, false, false] 6 ?_ fun J1223 => ?_
 ·
  rintro _ w1225 ⟨g572, H1226, O1227⟩
  refine gx_step3 5 6 7 rfl rfl rfl (by kernel_rfl) ?_ ?_ ?_
  ·
   refine Wk H1226 Tryd.func12 rfl (ar_cons (H1226.ev rfl) ar_nil) (totals_calls su bo Aq cq (ps ++ qs) _ (frz_C (i := 3) O1227 rfl hbq hFq) hlq (by omega)) ?_
   rintro e1228 w1229 ⟨rfl, hb1230⟩
   refine ⟨_, rfl, fun _ H1232 => ?_⟩
   have O1233 := O1227.after hb1230
   clear H1226 O1227 hb1230
   refine gx_on (i := 5) (B := (fun j_ => false)) (fun _ => (by exact O1233.sel [1, 2, 3, 4, 5, 6] (by decide))) ?_
   exact J1069 _ _ ⟨g572, (H1232.pick (t := 114) rfl (H1232.pick (t := 116) rfl (H1232.pick (t := 118) rfl (H1232.pick (t := 14) rfl (H1232.pick (t := 5) rfl (H1232.pick (t := 2) rfl (H1232.pick (t := 3) rfl (H1232.pick (t := 113) rfl (H1232.pick (t := 115) rfl (H1232.pick (t := 117) rfl H1232.nil)))))))))), O1233.sel [0, 1, 2, 3, 4, 5, 6] (by decide)⟩
  ·
   refine gw_new H1226 O1227 (want_none rfl) rfl (by decide) (op_alloc gwzer31 rfl) ?_
   intro g1235 _ w1237 H1238 O1239; clear H1226 O1227
   have O1240 : Own w w1237 [Bk g1235 [J 0, J 0, J 0, J 0, J 0, J 0, J 0, J 0] 31, Bk g572 [J 0, J 0, J 0, J 0, J 0, J 0, J 0, J 0] 31, Bk g284 [.string su, .string bo, .slice A260 ((ps ++ qs).length) c261] 24, Bk gq [.string su, .string bo, .slice Aq ((ps ++ qs).length) cq] 24, Chunk.frz wq Sq, Bk g8 [.string su2, .string bo2, .slice A1 qs.length c1] 24, Bk g2 [.string su, .string bo, .slice A0 ps.length c0] 24, Chunk.frz wz262 S263] := O1239
   clear O1239
   refine gx_on (i := 6) (B := (fun j_ => false)) (fun _ => (by exact O1240.sel [2, 3, 4, 5, 6, 7] (by decide))) ?_
   exact J1104 _ _ ⟨g1235, g572, (H1238.pick (t := 114) rfl (H1238.pick (t := 116) rfl (H1238.pick (t := 12) rfl (H1238.pick (t := 14) rfl (H1238.pick (t := 5) rfl (H1238.pick (t := 2) rfl (H1238.pick (t := 3) rfl (H1238.pick (t := 113) rfl (H1238.pick (t := 115) rfl (H1238.pick (t := 117) rfl H1238.nil)))))))))), O1240.sel [0, 1, 2, 3, 4, 5, 6, 7] (by decide)⟩
  refine gw_new H1226 O1227 (want_none rfl) rfl (by decide) (op_alloc gwzer31 rfl) ?_
  intro g1241 _ w1243 H1244 O1245; clear H1226 O1227
  have O1246 : Own w w1243 [Bk g1241 [J 0, J 0, J 0, J 0, J 0, J 0, J 0, J 0] 31, Bk g572 [J 0, J 0, J 0, J 0, J 0, J 0, J 0, J 0] 31, Bk g284 [.string su, .string bo, .slice A260 ((ps ++ qs).length) c261] 24, Bk gq [.string su, .string bo, .slice Aq ((ps ++ qs).length) cq] 24, Chunk.frz wq Sq, Bk g8 [.string su2, .string bo2, .slice A1 qs.length c1] 24, Bk g2 [.string su, .string bo, .slice A0 ps.length c0] 24, Chunk.frz wz262 S263] := O1245
  clear O1245
  refine gx_on (i := 7) (B := (fun j_ => false)) (fun _ => (by exact O1246.sel [2, 3, 4, 5, 6, 7] (by decide))) ?_
  exact J1122 _ _ ⟨g1241, g572, (H1244.pick (t := 114) rfl (H1244.pick (t := 116) rfl (H1244.pick (t := 13) rfl (H1244.pick (t := 14) rfl (H1244.pick (t := 5) rfl (H1244.pick (t := 2) rfl (H1244.pick (t := 3) rfl (H1244.pick (t := 113) rfl (H1244.pick (t := 115) rfl (H1244.pick (t := 117) rfl H1244.nil)))))))))), O1246.sel [0, 1, 2, 3, 4, 5, 6, 7] (by decide)⟩
 refine gx_cut (fun a_ w_ => ∃ g560 g566 : Nat, Fr 134 a_ [(114, .agg #[J (totL ps 0), J (totL ps 1), J (totL ps 2), J (totL ps 3), J (totL ps 4), J (totL ps 5), J (totL ps 6), J (totL ps 7)]), (12, .pointer (some ⟨g560, 0, none⟩)), (13, .pointer (some ⟨g566, 0, none⟩)), (5, .pointer (some ⟨gq, 0, none⟩)), (2, .pointer (some ⟨g2, 0, none⟩)), (3, .pointer (some ⟨g8, 0, none⟩)), (113, .agg #[.string su, .string bo, .slice A0 ps.length c0]), (115, .agg #[.string su2, .string bo2, .slice A1 qs.length c1]), (117, .agg #[.string su, .string bo, .slice Aq ((ps ++ qs).length) cq])] ∧ Own w w_ [Bk g560 [J 0, J 0, J 0, J 0, J 0, J 0, J 0, J 0] 31, Bk g566 [J 0, J 0, J 0, J 0, J 0, J 0, J 0, J 0] 31, Bk g284 [.string su, .string bo, .slice A260 ((ps ++ qs).length) c261] 24, Bk gq [.string su, .string bo, .slice Aq ((ps ++ qs).length) cq] 24, Chunk.frz wq Sq, Bk g8 [.string su2, .string bo2, .slice A1 qs.length c1] 24, Bk g2 [.string su, .string bo, .slice A0 ps.length c0] 24, Chunk.frz wz262 S263]) #[true, true, true, false, true, false, true, true, false, false, false, false] 6 ?_ fun J1247 => ?_
 ·
  rintro _ w1249 ⟨g560, g566, H1250, O1251⟩
  refine gx_two 3 8 rfl rfl (by kernel_rfl) ?_ ?_
  ·
   refine Wk H1250 Tryd.func12 rfl (ar_cons (H1250.ev rfl) ar_nil) (totals_calls su2 bo2 A1 c1 qs _ (Kd.C_below hr1 O1251.below) hc1 (by omega)) ?_
   rintro e1252 w1253 ⟨rfl, hb1254⟩
   refine ⟨_, rfl, fun _ H1256 => ?_⟩
   have O1257 := O1251.after hb1254
   clear H1250 O1251 hb1254
   refine gx_on (i := 3) (B := (fun j_ => false)) (fun _ => (by exact O1257.sel [2, 3, 4, 5, 6, 7] (by decide))) ?_
   exact J1086 _ _ ⟨g560, g566, (H1256.pick (t := 114) rfl (H1256.pick (t := 116) rfl (H1256.pick (t := 12) rfl (H1256.pick (t := 13) rfl (H1256.pick (t := 5) rfl (H1256.pick (t := 2) rfl (H1256.pick (t := 3) rfl (H1256.pick (t := 113) rfl (H1256.pick (t := 115) rfl (H1256.pick (t := 117) rfl H1256.nil)))))))))), O1257.sel [0, 1, 2, 3, 4, 5, 6, 7] (by decide)⟩
  refine gw_new H1250 O1251 (want_none rfl) rfl (by decide) (op_alloc gwzer31 rfl) ?_
  intro g1259 _ w1261 H1262 O1263; clear H1250 O1251
  have O1264 : Own w w1261 [Bk g1259 [J 0, J 0, J 0, J 0, J 0, J 0, J 0, J 0] 31, Bk g560 [J 0, J 0, J 0, J 0, J 0, J 0, J 0, J 0] 31, Bk g566 [J 0, J 0, J 0, J 0, J 0, J 0, J 0, J 0] 31, Bk g284 [.string su, .string bo, .slice A260 ((ps ++ qs).length) c261] 24, Bk gq [.string su, .string bo, .slice Aq ((ps ++ qs).length) cq] 24, Chunk.frz wq Sq, Bk g8 [.string su2, .string bo2, .slice A1 qs.length c1] 24, Bk g2 [.string su, .string bo, .slice A0 ps.length c0] 24, Chunk.frz wz262 S263] := O1263
  clear O1263
  refine gx_on (i := 8) (B := (fun j_ => false)) (fun _ => (by exact O1264.sel [3, 4, 5, 6, 7, 8] (by decide))) ?_
  exact J1140 _ _ ⟨g560, g566, g1259, (H1262.pick (t := 114) rfl (H1262.pick (t := 12) rfl (H1262.pick (t := 13) rfl (H1262.pick (t := 14) rfl (H1262.pick (t := 5) rfl (H1262.pick (t := 2) rfl (H1262.pick (t := 3) rfl (H1262.pick (t := 113) rfl (H1262.pick (t := 115) rfl (H1262.pick (t := 117) rfl H1262.nil)))))))))), O1264.sel [1, 2, 0, 3, 4, 5, 6, 7, 8] (by decide)⟩
 refine gx_cut (fun a_ w_ => ∃ g560 g572 : Nat, Fr 134 a_ [(114, .agg #[J (totL ps 0), J (totL ps 1), J (totL ps 2), J (totL ps 3), J (totL ps 4), J (totL ps 5), J (totL ps 6), J (totL ps 7)]), (12, .pointer (some ⟨g560, 0, none⟩)), (14, .pointer (some ⟨g572, 0, none⟩)), (5, .pointer (some ⟨gq, 0, none⟩)), (2, .pointer (some ⟨g2, 0, none⟩)), (3, .pointer (some ⟨g8, 0, none⟩)), (113, .agg #[.string su, .string bo, .slice A0 ps.length c0]), (115, .agg #[.string su2, .string bo2, .slice A1 qs.length c1]), (117, .agg #[.string su, .string bo, .slice Aq ((ps ++ qs).length) cq])] ∧ Own w w_ [Bk g560 [J 0, J 0, J 0, J 0, J 0, J 0, J 0, J 0] 31, Bk g572 [J 0, J 0, J 0, J 0, J 0, J 0, J 0, J 0] 31, Bk g284 [.string su, .string bo, .slice A260 ((ps ++ qs).length) c261] 24, Bk gq [.string su, .string bo, .slice Aq ((ps ++ qs).length) cq] 24, Chunk.frz wq Sq, Bk g8 [.string su2, .string bo2, .slice A1 qs.length c1] 24, Bk g2 [.string su, .string bo, .slice A0 ps.length c0] 24, Chunk.frz wz262 S263]) #[true, true, true, false, true, false, true, false, true, false, false, false] 6 ?_ fun J1265 => ?_
 ·
  rintro _ w1267 ⟨g560, g572, H1268, O1269⟩
  refine gx_two 3 7 rfl rfl (by kernel_rfl) ?_ ?_
  ·
   refine Wk H1268 Tryd.func12 rfl (ar_cons (H1268.ev rfl) ar_nil) (totals_calls su2 bo2 A1 c1 qs _ (Kd.C_below hr1 O1269.below) hc1 (by omega)) ?_
   rintro e1270 w1271 ⟨rfl, hb1272⟩
   refine ⟨_, rfl, fun _ H1274 => ?_⟩
   have O1275 := O1269.after hb1272
   clear H1268 O1269 hb1272
   refine gx_on (i := 3) (B := (fun j_ => false)) (fun _ => (by exact O1275.sel [2, 3, 4, 5, 6, 7] (by decide))) ?_
   exact J1104 _ _ ⟨g560, g572, (H1274.pick (t := 114) rfl (H1274.pick (t := 116) rfl (H1274.pick (t := 12) rfl (H1274.pick (t := 14) rfl (H1274.pick (t := 5) rfl (H1274.pick (t := 2) rfl (H1274.pick (t := 3) rfl (H1274.pick (t := 113) rfl (H1274.pick (t := 115) rfl (H1274.pick (t := 117) rfl H1274.nil)))))))))), O1275.sel [0, 1, 2, 3, 4, 5, 6, 7] (by decide)⟩
  refine gw_new H1268 O1269 (want_none rfl) rfl (by decide) (op_alloc gwzer31 rfl) ?_
  intro g1277 _ w1279 H1280 O1281; clear H1268 O1269
  have O1282 : Own w w1279 [Bk g1277 [J 0, J 0, J 0, J 0, J 0, J 0, J 0, J 0] 31, Bk g560 [J 0, J 0, J 0, J 0, J 0, J 0, J 0, J 0] 31, Bk g572 [J 0, J 0, J 0, J 0, J 0, J 0, J 0, J 0] 31, Bk g284 [.string su, .string bo, .slice A260 ((ps ++ qs).length) c261] 24, Bk gq [.string su, .string bo, .slice Aq ((ps ++ qs).length) cq] 24, Chunk.frz wq Sq, Bk g8 [.string su2, .string bo2, .slice A1 qs.length c1] 24, Bk g2 [.string su, .string bo, .slice A0 ps.length c0] 24, Chunk.frz wz262 S263] := O1281
  clear O1281
  refine gx_on (i := 7) (B := (fun j_ => false)) (fun _ => (by exact O1282.sel [3, 4, 5, 6, 7, 8] (by decide))) ?_
  exact J1140 _ _ ⟨g560, g1277, g572, (H1280.pick (t := 114) rfl (H1280.pick (t := 12) rfl (H1280.pick (t := 13) rfl (H1280.pick (t := 14) rfl (H1280.pick (t := 5) rfl (H1280.pick (t := 2) rfl (H1280.pick (t := 3) rfl (H1280.pick (t := 113) rfl (H1280.pick (t := 115) rfl (H1280.pick (t := 117) rfl H1280.nil)))))))))), O1282.sel [1, 0, 2, 3, 4, 5, 6, 7, 8] (by decide)⟩
 refine gx_cut (fun a_ w_ => ∃ g566 g572 : Nat, Fr 134 a_ [(114, .agg #[J (totL ps 0), J (totL ps 1), J (totL ps 2), J (totL ps 3), J (totL ps 4), J (totL ps 5), J (totL ps 6), J (totL ps 7)]), (13, .pointer (some ⟨g566, 0, none⟩)), (14, .pointer (some ⟨g572, 0, none⟩)), (5, .pointer (some ⟨gq, 0, none⟩)), (2, .pointer (some ⟨g2, 0, none⟩)), (3, .pointer (some ⟨g8, 0, none⟩)), (113, .agg #[.string su, .string bo, .slice A0 ps.length c0]), (115, .agg #[.string su2, .string bo2, .slice A1 qs.length c1]), (117, .agg #[.string su, .string bo, .slice Aq ((ps ++ qs).length) cq])] ∧ Own w w_ [Bk g566 [J 0, J 0, J 0, J 0, J 0, J 0, J 0, J 0] 31, Bk g572 [J 0, J 0, J 0, J 0, J 0, J 0, J 0, J 0] 31, Bk g284 [.string su, .string bo, .slice A260 ((ps ++ qs).length) c261] 24, Bk gq [.string su, .string bo, .slice Aq ((ps ++ qs).length) cq] 24, Chunk.frz wq Sq, Bk g8 [.string su2, .string bo2, .slice A1 qs.length c1] 24, Bk g2 [.string su, .string bo, .slice A0 ps.length c0] 24, Chunk.frz wz262 S263]) #[true, true, true, false, true, false, false, true, true, false, false, false] 6 ?_ fun J1283 => ?_
 ·
  rintro _ w1285 ⟨g566, g572, H1286, O1287⟩
  refine gx_two 3 6 rfl rfl (by kernel_rfl) ?_ ?_
  ·
   refine Wk H1286 Tryd.func12 rfl (ar_cons (H1286.ev rfl) ar_nil) (totals_calls su2 bo2 A1 c1 qs _ (Kd.C_below hr1 O1287.below) hc1 (by omega)) ?_
   rintro e1288 w1289 ⟨rfl, hb1290⟩
   refine ⟨_, rfl, fun _ H1292 => ?_⟩
   have O1293 := O1287.after hb1290
   clear H1286 O1287 hb1290
   refine gx_on (i := 3) (B := (fun j_ => false)) (fun _ => (by exact O1293.sel [2, 3, 4, 5, 6, 7] (by decide))) ?_
   exact J1122 _ _ ⟨g566, g572, (H1292.pick (t := 114) rfl (H1292.pick (t := 116) rfl (H1292.pick (t := 13) rfl (H1292.pick (t := 14) rfl (H1292.pick (t := 5) rfl (H1292.pick (t := 2) rfl (H1292.pick (t := 3) rfl (H1292.pick (t := 113) rfl (H1292.pick (t := 115) rfl (H1292.pick (t := 117) rfl H1292.nil)))))))))), O1293.sel [0, 1, 2, 3, 4, 5, 6, 7] (by decide)⟩
  refine gw_new H1286 O1287 (want_none rfl) rfl (by decide) (op_alloc gwzer31 rfl) ?_
  intro g1295 _ w1297 H1298 O1299; clear H1286 O1287
  have O1300 : Own w w1297 [Bk g1295 [J 0, J 0, J 0, J 0, J 0, J 0, J 0, J 0] 31, Bk g566 [J 0, J 0, J 0, J 0, J 0, J 0, J 0, J 0] 31, Bk g572 [J 0, J 0, J 0, J 0, J 0, J 0, J 0, J 0] 31, Bk g284 [.string su, .string bo, .slice A260 ((ps ++ qs).length) c261] 24, Bk gq [.string su, .string bo, .slice Aq ((ps ++ qs).length) cq] 24, Chunk.frz wq Sq, Bk g8 [.string su2, .string bo2, .slice A1 qs.length c1] 24, Bk g2 [.string su, .string bo, .slice A0 ps.length c0] 24, Chunk.frz wz262 S263] := O1299
  clear O1299
  refine gx_on (i := 6) (B := (fun j_ => false)) (fun _ => (by exact O1300.sel [3, 4, 5, 6, 7, 8] (by decide))) ?_
  exact J1140 _ _ ⟨g1295, g566, g572, (H1298.pick (t := 114) rfl (H1298.pick (t := 12) rfl (H1298.pick (t := 13) rfl (H1298.pick (t := 14) rfl (H1298.pick (t := 5) rfl (H1298.pick (t := 2) rfl (H1298.pick (t := 3) rfl (H1298.pick (t := 113) rfl (H1298.pick (t := 115) rfl (H1298.pick (t := 117) rfl H1298.nil)))))))))), O1300.sel [0, 1, 2, 3, 4, 5, 6, 7, 8] (by decide)⟩
 refine gx_cut (fun a_ w_ => ∃ g560 g566 g572 : Nat, Fr 134 a_ [(12, .pointer (some ⟨g560, 0, none⟩)), (13, .pointer (some ⟨g566, 0, none⟩)), (14, .pointer (some ⟨g572, 0, none⟩)), (5, .pointer (some ⟨gq, 0, none⟩)), (2, .pointer (some ⟨g2, 0, none⟩)), (3, .pointer (some ⟨g8, 0, none⟩)), (113, .agg #[.string su, .string bo, .slice A0 ps.length c0]), (115, .agg #[.string su2, .string bo2, .slice A1 qs.length c1]), (117, .agg #[.string su, .string bo, .slice Aq ((ps ++ qs).length) cq])] ∧ Own w w_ [Bk g560 [J 0, J 0, J 0, J 0, J 0, J 0, J 0, J 0] 31, Bk g566 [J 0, J 0, J 0, J 0, J 0, J 0, J 0, J 0] 31, Bk g572 [J 0, J 0, J 0, J 0, J 0, J 0, J 0, J 0] 31, Bk g284 [.string su, .string bo, .slice A260 ((ps ++ qs).length) c261] 24, Bk gq [.string su, .string bo, .slice Aq ((ps ++ qs).length) cq] 24, Chunk.frz wq Sq, Bk g8 [.string su2, .string bo2, .slice A1 qs.length c1] 24, Bk g2 [.string su, .string bo, .slice A0 ps.length c0] 24, Chunk.frz wz262 S263]) #[true, false, true, false, true, false, true, true, true, false, false, false] 6 ?_ fun J1301 => ?_
 ·
  rintro _ w1303 ⟨g560, g566, g572, H1304, O1305⟩
  refine gx_step 1 rfl (by kernel_rfl) ?_
  refine Wk H1304 Tryd.func12 rfl (ar_cons (H1304.ev rfl) ar_nil) (totals_calls su bo A0 c0 ps _ (Kd.C_below hr O1305.below) hc (by omega)) ?_
  rintro e1306 w1307 ⟨rfl, hb1308⟩
  refine ⟨_, rfl, fun _ H1310 => ?_⟩
  have O1311 := O1305.after hb1308
  clear H1304 O1305 hb1308
  refine gx_on (i := 1) (B := (fun j_ => false)) (fun _ => (by exact O1311.sel [3, 4, 5, 6, 7, 8] (by decide))) ?_
  exact J1140 _ _ ⟨g560, g566, g572, (H1310.pick (t := 114) rfl (H1310.pick (t := 12) rfl (H1310.pick (t := 13) rfl (H1310.pick (t := 14) rfl (H1310.pick (t := 5) rfl (H1310.pick (t := 2) rfl (H1310.pick (t := 3) rfl (H1310.pick (t := 113) rfl (H1310.pick (t := 115) rfl (H1310.pick (t := 117) rfl H1310.nil)))))))))), O1311.sel [0, 1, 2, 3, 4, 5, 6, 7, 8] (by decide)⟩
 refine gx_cut (fun a_ w_ => Fr 134 a_ [(114, .agg #[J (totL ps 0), J (totL ps 1), J (totL ps 2), J (totL ps 3), J (totL ps 4), J (totL ps 5), J (totL ps 6), J (totL ps 7)]), (116, .agg #[J (totL qs 0), J (totL qs 1), J (totL qs 2), J (totL qs 3), J (totL qs 4), J (totL qs 5), J (totL qs 6), J (totL qs 7)]), (5, .pointer (some ⟨gq, 0, none⟩)), (2, .pointer (some ⟨g2, 0, none⟩)), (3, .pointer (some ⟨g8, 0, none⟩)), (113, .agg #[.string su, .string bo, .slice A0 ps.length c0]), (115, .agg #[.string su2, .string bo2, .slice A1 qs.length c1]), (117, .agg #[.string su, .string bo, .slice Aq ((ps ++ qs).length) cq])] ∧ Own w w_ [Bk g284 [.string su, .string bo, .slice A260 ((ps ++ qs).length) c261] 24, Bk gq [.string su, .string bo, .slice Aq ((ps ++ qs).length) cq] 24, Chunk.frz wq Sq, Bk g8 [.string su2, .string bo2, .slice A1 qs.length c1] 24, Bk g2 [.string su, .string bo, .slice A0 ps.length c0] 24, Chunk.frz wz262 S263]) #[true, true, true, true, true, false, false, false, false, false, false, false] 7 ?_ fun J1313 => ?_
 ·
  rintro _ w1315 ⟨H1316, O1317⟩
  refine gx_step4 5 6 7 8 rfl rfl rfl rfl (by kernel_rfl) ?_ ?_ ?_ ?_
  ·
   refine Wk H1316 Tryd.func12 rfl (ar_cons (H1316.ev rfl) ar_nil) (totals_calls su bo Aq cq (ps ++ qs) _ (frz_C (i := 2) O1317 rfl hbq hFq) hlq (by omega)) ?_
   rintro e1318 w1319 ⟨rfl, hb1320⟩
   refine ⟨_, rfl, fun _ H1322 => ?_⟩
   have O1323 := O1317.after hb1320
   clear H1316 O1317 hb1320
   refine gx_on (i := 5) (B := (fun j_ => false)) (fun _ => (by exact O1323.sel [0, 1, 2, 3, 4, 5] (by decide))) ?_
   exact J1152 _ _ ⟨(H1322.pick (t := 114) rfl (H1322.pick (t := 116) rfl (H1322.pick (t := 118) rfl (H1322.pick (t := 5) rfl (H1322.pick (t := 2) rfl (H1322.pick (t := 3) rfl (H1322.pick (t := 113) rfl (H1322.pick (t := 115) rfl (H1322.pick (t := 117) rfl H1322.nil))))))))), O1323.sel [0, 1, 2, 3, 4, 5] (by decide)⟩
  ·
   refine gw_new H1316 O1317 (want_none rfl) rfl (by decide) (op_alloc gwzer31 rfl) ?_
   intro g1325 _ w1327 H1328 O1329; clear H1316 O1317
   have O1330 : Own w w1327 [Bk g1325 [J 0, J 0, J 0, J 0, J 0, J 0, J 0, J 0] 31, Bk g284 [.string su, .string bo, .slice A260 ((ps ++ qs).length) c261] 24, Bk gq [.string su, .string bo, .slice Aq ((ps ++ qs).length) cq] 24, Chunk.frz wq Sq, Bk g8 [.string su2, .string bo2, .slice A1 qs.length c1] 24, Bk g2 [.string su, .string bo, .slice A0 ps.length c0] 24, Chunk.frz wz262 S263] := O1329
   clear O1329
   refine gx_on (i := 6) (B := (fun j_ => false)) (fun _ => (by exact O1330.sel [1, 2, 3, 4, 5, 6] (by decide))) ?_
   exact J1175 _ _ ⟨g1325, (H1328.pick (t := 114) rfl (H1328.pick (t := 116) rfl (H1328.pick (t := 12) rfl (H1328.pick (t := 5) rfl (H1328.pick (t := 2) rfl (H1328.pick (t := 3) rfl (H1328.pick (t := 113) rfl (H1328.pick (t := 115) rfl (H1328.pick (t := 117) rfl H1328.nil))))))))), O1330.sel [0, 1, 2, 3, 4, 5, 6] (by decide)⟩
  ·
   refine gw_new H1316 O1317 (want_none rfl) rfl (by decide) (op_alloc gwzer31 rfl) ?_
   intro g1331 _ w1333 H1334 O1335; clear H1316 O1317
   have O1336 : Own w w1333 [Bk g1331 [J 0, J 0, J 0, J 0, J 0, J 0, J 0, J 0] 31, Bk g284 [.string su, .string bo, .slice A260 ((ps ++ qs).length) c261] 24, Bk gq [.string su, .string bo, .slice Aq ((ps ++ qs).length) cq] 24, Chunk.frz wq Sq, Bk g8 [.string su2, .string bo2, .slice A1 qs.length c1] 24, Bk g2 [.string su, .string bo, .slice A0 ps.length c0] 24, Chunk.frz wz262 S263] := O1335
   clear O1335
   refine gx_on (i := 7) (B := (fun j_ => false)) (fun _ => (by exact O1336.sel [1, 2, 3, 4, 5, 6] (by decide))) ?_
   exact J1199 _ _ ⟨g1331, (H1334.pick (t := 114) rfl (H1334.pick (t := 116) rfl (H1334.pick (t := 13) rfl (H1334.pick (t := 5) rfl (H1334.pick (t := 2) rfl (H1334.pick (t := 3) rfl (H1334.pick (t := 113) rfl (H1334.pick (t := 115) rfl (H1334.pick (t := 117) rfl H1334.nil))))))))), O1336.sel [0, 1, 2, 3, 4, 5, 6] (by decide)⟩
  refine gw_new H1316 O1317 (want_none rfl) rfl (by decide) (op_alloc gwzer31 rfl) ?_
  intro g1337 _ w1339 H1340 O1341; clear H1316 O1317
  have O1342 : Own w w1339 [Bk g1337 [J 0, J 0, J 0, J 0, J 0, J 0, J 0, J 0] 31, Bk g284 [.string su, .string bo, .slice A260 ((ps ++ qs).length) c261] 24, Bk gq [.string su, .string bo, .slice Aq ((ps ++ qs).length) cq] 24, Chunk.frz wq Sq, Bk g8 [.string su2, .string bo2, .slice A1 qs.length c1] 24, Bk g2 [.string su, .string bo, .slice A0 ps.length c0] 24, Chunk.frz wz262 S263] := O1341
  clear O1341
  refine gx_on (i := 8) (B := (fun j_ => false)) (fun _ => (by exact O1342.sel [1, 2, 3, 4, 5, 6] (by decide))) ?_
  exact J1223 _ _ ⟨g1337, (H1340.pick (t := 114) rfl (H1340.pick (t := 116) rfl (H1340.pick (t := 14) rfl (H1340.pick (t := 5) rfl (H1340.pick (t := 2) rfl (H1340.pick (t := 3) rfl (H1340.pick (t := 113) rfl (H1340.pick (t := 115) rfl (H1340.pick (t := 117) rfl H1340.nil))))))))), O1342.sel [0, 1, 2, 3, 4, 5, 6] (by decide)⟩
 refine gx_cut (fun a_ w_ => ∃ g560 : Nat, Fr 134 a_ [(114, .agg #[J (totL ps 0), J (totL ps 1), J (totL ps 2), J (totL ps 3), J (totL ps 4), J (totL ps 5), J (totL ps 6), J (totL ps 7)]), (12, .pointer (some ⟨g560, 0, none⟩)), (5, .pointer (some ⟨gq, 0, none⟩)), (2, .pointer (some ⟨g2, 0, none⟩)), (3, .pointer (some ⟨g8, 0, none⟩)), (113, .agg #[.string su, .string bo, .slice A0 ps.length c0]), (115, .agg #[.string su2, .string bo2, .slice A1 qs.length c1]), (117, .agg #[.string su, .string bo, .slice Aq ((ps ++ qs).length) cq])] ∧ Own w w_ [Bk g560 [J 0, J 0, J 0, J 0, J 0, J 0, J 0, J 0] 31, Bk g284 [.string su, .string bo, .slice A260 ((ps ++ qs).length) c261] 24, Bk gq [.string su, .string bo, .slice Aq ((ps ++ qs).length) cq] 24, Chunk.frz wq Sq, Bk g8 [.string su2, .string bo2, .slice A1 qs.length c1] 24, Bk g2 [.string su, .string bo, .slice A0 ps.length c0] 24, Chunk.frz wz262 S263]) #[true, true, true, false, true, false, true, false, false, false, false, false] 7 ?_ fun J1343 => ?_
 ·
  rintro _ w1345 ⟨g560, H1346, O1347⟩
  refine gx_step3 3 7 8 rfl rfl rfl (by kernel_rfl) ?_ ?_ ?_
  ·
   refine Wk H1346 Tryd.func12 rfl (ar_cons (H1346.ev rfl) ar_nil) (totals_calls su2 bo2 A1 c1 qs _ (Kd.C_below hr1 O1347.below) hc1 (by omega)) ?_
   rintro e1348 w1349 ⟨rfl, hb1350⟩
   refine ⟨_, rfl, fun _ H1352 => ?_⟩
   have O1353 := O1347.after hb1350
   clear H1346 O1347 hb1350
   refine gx_on (i := 3) (B := (fun j_ => false)) (fun _ => (by exact O1353.sel [1, 2, 3, 4, 5, 6] (by decide))) ?_
   exact J1175 _ _ ⟨g560, (H1352.pick (t := 114) rfl (H1352.pick (t := 116) rfl (H1352.pick (t := 12) rfl (H1352.pick (t := 5) rfl (H1352.pick (t := 2) rfl (H1352.pick (t := 3) rfl (H1352.pick (t := 113) rfl (H1352.pick (t := 115) rfl (H1352.pick (t := 117) rfl H1352.nil))))))))), O1353.sel [0, 1, 2, 3, 4, 5, 6] (by decide)⟩
  ·
   refine gw_new H1346 O1347 (want_none rfl) rfl (by decide) (op_alloc gwzer31 rfl) ?_
   intro g1355 _ w1357 H1358 O1359; clear H1346 O1347
   have O1360 : Own w w1357 [Bk g1355 [J 0, J 0, J 0, J 0, J 0, J 0, J 0, J 0] 31, Bk g560 [J 0, J 0, J 0, J 0, J 0, J 0, J 0, J 0] 31, Bk g284 [.string su, .string bo, .slice A260 ((ps ++ qs).length) c261] 24, Bk gq [.string su, .string bo, .slice Aq ((ps ++ qs).length) cq] 24, Chunk.frz wq Sq, Bk g8 [.string su2, .string bo2, .slice A1 qs.length c1] 24, Bk g2 [.string su, .string bo, .slice A0 ps.length c0] 24, Chunk.frz wz262 S263] := O1359
   clear O1359
   refine gx_on (i := 7) (B := (fun j_ => false)) (fun _ => (by exact O1360.sel [2, 3, 4, 5, 6, 7] (by decide))) ?_
   exact J1247 _ _ ⟨g560, g1355, (H1358.pick (t := 114) rfl (H1358.pick (t := 12) rfl (H1358.pick (t := 13) rfl (H1358.pick (t := 5) rfl (H1358.pick (t := 2) rfl (H1358.pick (t := 3) rfl (H1358.pick (t := 113) rfl (H1358.pick (t := 115) rfl (H1358.pick (t := 117) rfl H1358.nil))))))))), O1360.sel [1, 0, 2, 3, 4, 5, 6, 7] (by decide)⟩
  refine gw_new H1346 O1347 (want_none rfl) rfl (by decide) (op_alloc gwzer31 rfl) ?_
  intro g1361 _ w1363 H1364 O1365; clear H1346 O1347
  have O1366 : Own w w1363 [Bk g1361 [J 0, J 0, J 0, J 0, J 0, J 0, J 0, J 0] 31, Bk g560 [J 0, J 0, J 0, J 0, J 0, J 0, J 0, J 0] 31, Bk g284 [.string su, .string bo, .slice A260 ((ps ++ qs).length) c261] 24, Bk gq [.string su, .string bo, .slice Aq ((ps ++ qs).length) cq] 24, Chunk.frz wq Sq, Bk g8 [.string su2, .string bo2, .slice A1 qs.length c1] 24, Bk g2 [.string su, .string bo, .slice A0 ps.length c0] 24, Chunk.frz wz262 S263] := O1365
  clear O1365
  refine gx_on (i := 8) (B := (fun j_ => false)) (fun _ => (by exact O1366.sel [2, 3, 4, 5, 6, 7] (by decide))) ?_
  exact J1265 _ _ ⟨g560, g1361, (H1364.pick (t := 114) rfl (H1364.pick (t := 12) rfl (H1364.pick (t := 14) rfl (H1364.pick (t := 5) rfl (H1364.pick (t := 2) rfl (H1364.pick (t := 3) rfl (H1364.pick (t := 113) rfl (H1364.pick (t := 115) rfl (H1364.pick (t := 117) rfl H1364.nil))))))))), O1366.sel [1, 0, 2, 3, 4, 5, 6, 7] (by decide)⟩
 refine gx_cut (fun a_ w_ => ∃ g566 : Nat, Fr 134 a_ [(114, .agg #[J (totL ps 0), J (totL ps 1), J (totL ps 2), J (totL ps 3), J (totL ps 4), J (totL ps 5), J (totL ps 6), J (totL ps 7)]), (13, .pointer (some ⟨g566, 0, none⟩)), (5, .pointer (some ⟨gq, 0, none⟩)), (2, .pointer (some ⟨g2, 0, none⟩)), (3, .pointer (some ⟨g8, 0, none⟩)), (113, .agg #[.string su, .string bo, .slice A0 ps.length c0]), (115, .agg #[.string su2, .string bo2, .slice A1 qs.length c1]), (117, .agg #[.string su, .string bo, .slice Aq ((ps ++ qs).length) cq])] ∧ Own w w_ [Bk g566 [J 0, J 0, J 0, J 0, J 0, J 0, J 0, J 0] 31, Bk g284 [.string su, .string bo, .slice A260 ((ps ++ qs).length) c261] 24, Bk gq [.string su, .string bo, .slice Aq ((ps ++ qs).length) cq] 24, Chunk.frz wq Sq, Bk g8 [.string su2, .string bo2, .slice A1 qs.length c1] 24, Bk g2 [.string su, .string bo, .slice A0 ps.length c0] 24, Chunk.frz wz262 S263]) #[true, true, true, false, true, false, false, true, false, false, false, false] 7 ?_ fun J1367 => ?_
 ·
  rintro _ w1369 ⟨g566, H1370, O1371⟩
  refine gx_step3 3 6 8 rfl rfl rfl (by kernel_rfl) ?_ ?_ ?_
  ·
   refine Wk H1370 Tryd.func12 rfl (ar_cons (H1370.ev rfl) ar_nil) (totals_calls su2 bo2 A1 c1 qs _ (Kd.C_below hr1 O1371.below) hc1 (by omega)) ?_
   rintro e1372 w1373 ⟨rfl, hb1374⟩
   refine ⟨_, rfl, fun _ H1376 => ?_⟩
   have O1377 := O1371.after hb1374
   clear H1370 O1371 hb1374
   refine gx_on (i := 3) (B := (fun j_ => false)) (fun _ => (by exact O1377.sel [1, 2, 3, 4, 5, 6] (by decide))) ?_
   exact J1199 _ _ ⟨g566, (H1376.pick (t := 114) rfl (H1376.pick (t := 116) rfl (H1376.pick (t := 13) rfl (H1376.pick (t := 5) rfl (H1376.pick (t := 2) rfl (H1376.pick (t := 3) rfl (H1376.pick (t := 113) rfl (H1376.pick (t := 115) rfl (H1376.pick (t := 117) rfl H1376.nil))))))))), O1377.sel [0, 1, 2, 3, 4, 5, 6] (by decide)⟩
  ·
   refine gw_new H1370 O1371 (want_none rfl) rfl (by decide) (op_alloc gwzer31 rfl) ?_
   intro g1379 _ w1381 H1382 O1383; clear H1370 O1371
   have O1384 : Own w w1381 [Bk g1379 [J 0, J 0, J 0, J 0, J 0, J 0, J 0, J 0] 31, Bk g566 [J 0, J 0, J 0, J 0, J 0, J 0, J 0, J 0] 31, Bk g284 [.string su, .string bo, .slice A260 ((ps ++ qs).length) c261] 24, Bk gq [.string su, .string bo, .slice Aq ((ps ++ qs).length) cq] 24, Chunk.frz wq Sq, Bk g8 [.string su2, .string bo2, .slice A1 qs.length c1] 24, Bk g2 [.string su, .string bo, .slice A0 ps.length c0] 24, Chunk.frz wz262 S263] := O1383
   clear O1383
   refine gx_on (i := 6) (B := (fun j_ => false)) (fun _ => (by exact O1384.sel [2, 3, 4, 5, 6, 7] (by decide))) ?_
   exact J1247 _ _ ⟨g1379, g566, (H1382.pick (t := 114) rfl (H1382.pick (t := 12) rfl (H1382.pick (t := 13) rfl (H1382.pick (t := 5) rfl (H1382.pick (t := 2) rfl (H1382.pick (t := 3) rfl (H1382.pick (t := 113) rfl (H1382.pick (t := 115) rfl (H1382.pick (t := 117) rfl H1382.nil))))))))), O1384.sel [0, 1, 2, 3, 4, 5, 6, 7] (by decide)⟩
  refine gw_new H1370 O1371 (want_none rfl) rfl (by decide) (op_alloc gwzer31 rfl) ?_
  intro g1385 _ w1387 H1388 O1389; clear H1370 O1371
  have O1390 : Own w w1387 [Bk g1385 [J 0, J 0, J 0, J 0, J 0, J 0, J 0, J 0] 31, Bk g566 [J 0, J 0, J 0, J 0, J 0, J 0, J 0, J 0] 31, Bk g284 [.string su, .string bo, .slice A260 ((ps ++ qs).length) c261] 24, Bk gq [.string su, .string bo, .slice Aq ((ps ++ qs).length) cq] 24, Chunk.frz wq Sq, Bk g8 [.string su2, .string bo2, .slice A1 qs.length c1] 24, Bk g2 [.string su, .string bo, .slice A0 ps.length c0] 24, Chunk.frz wz262 S263] := O1389
  clear O1389
  refine gx_on (i := 8) (B := (fun j_ => false)) (fun _ => (by exact O1390.sel [2, 3, 4, 5, 6, 7] (by decide))) ?_
  exact J1283 _ _ ⟨g566, g1385, (H1388.pick (t := 114) rfl (H1388.pick (t := 13) rfl (H1388.pick (t := 14) rfl (H1388.pick (t := 5) rfl (H1388.pick (t := 2) rfl (H1388.pick (t := 3) rfl (H1388.pick (t := 113) rfl (H1388.pick (t := 115) rfl (H1388.pick (t := 117) rfl H1388.nil))))))))), O1390.sel [1, 0, 2, 3, 4, 5, 6, 7] (by decide)⟩
 refine gx_cut (fun a_ w_ => ∃ g572 : Nat, Fr 134 a_ [(114, .agg #[J (totL ps 0), J (totL ps 1), J (totL ps 2), J (totL ps 3), J (totL ps 4), J (totL ps 5), J (totL ps 6), J (totL ps 7)]), (14, .pointer (some ⟨g572, 0, none⟩)), (5, .pointer (some ⟨gq, 0, none⟩)), (2, .pointer (some ⟨g2, 0, none⟩)), (3, .pointer (some ⟨g8, 0, none⟩)), (113, .agg #[.string su, .string bo, .slice A0 ps.length c0]), (115, .agg #[.string su2, .string bo2, .slice A1 qs.length c1]), (117, .agg #[.string su, .string bo, .slice Aq ((ps ++ qs).length) cq])] ∧ Own w w_ [Bk g572 [J 0, J 0, J 0, J 0, J 0, J 0, J 0, J 0] 31, Bk g284 [.string su, .string bo, .slice A260 ((ps ++ qs).length) c261] 24, Bk gq [.string su, .string bo, .slice Aq ((ps ++ qs).length) cq] 24, Chunk.frz wq Sq, Bk g8 [.string su2, .string bo2, .slice A1 qs.length c1] 24, Bk g2 [.string su, .string bo, .slice A0 ps.length c0] 24, Chunk.frz wz262 S263]) #[true, true, true, false, true, false, false, false, true, false, false, false] 7 ?_ fun J1391 => ?_
 ·
  rintro _ w1393 ⟨g572, H1394, O1395⟩
  refine gx_step3 3 6 7 rfl rfl rfl (by kernel_rfl) ?_ ?_ ?_
  ·
   refine Wk H1394 Tryd.func12 rfl (ar_cons (H1394.ev rfl) ar_nil) (totals_calls su2 bo2 A1 c1 qs _ (Kd.C_below hr1 O1395.below) hc1 (by omega)) ?_
   rintro e1396 w1397 ⟨rfl, hb1398⟩
   refine ⟨_, rfl, fun _ H1400 => ?_⟩
   have O1401 := O1395.after hb1398
   clear H1394 O1395 hb1398
   refine gx_on (i := 3) (B := (fun j_ => false)) (fun _ => (by exact O1401.sel [1, 2, 3, 4, 5, 6] (by decide))) ?_
   exact J1223 _ _ ⟨g572, (H1400.pick (t := 114) rfl (H1400.pick (t := 116) rfl (H1400.pick (t := 14) rfl (H1400.pick (t := 5) rfl (H1400.pick (t := 2) rfl (H1400.pick (t := 3) rfl (H1400.pick (t := 113) rfl (H1400.pick (t := 115) rfl (H1400.pick (t := 117) rfl H1400.nil))))))))), O1401.sel [0, 1, 2, 3, 4, 5, 6] (by decide)⟩
  ·
   refine gw_new H1394 O1395 (want_none rfl) rfl (by decide) (op_alloc gwzer31 rfl) ?_
   intro g1403 _ w1405 H1406 O1407; clear H1394 O1395
   have O1408 : Own w w1405 [Bk g1403 [J 0, J 0, J 0, J 0, J 0, J 0, J 0, J 0] 31, Bk g572 [J 0, J 0, J 0, J 0, J 0, J 0, J 0, J 0] 31, Bk g284 [.string su, .string bo, .slice A260 ((ps ++ qs).length) c261] 24, Bk gq [.string su, .string bo, .slice Aq ((ps ++ qs).length) cq] 24, Chunk.frz wq Sq, Bk g8 [.string su2, .string bo2, .slice A1 qs.length c1] 24, Bk g2 [.string su, .string bo, .slice A0 ps.length c0] 24, Chunk.frz wz262 S263] := O1407
   clear O1407
   refine gx_on (i := 6) (B := (fun j_ => false)) (fun _ => (by exact O1408.sel [2, 3, 4, 5, 6, 7] (by decide))) ?_
   exact J1265 _ _ ⟨g1403, g572, (H1406.pick (t := 114) rfl (H1406.pick (t := 12) rfl (H1406.pick (t := 14) rfl (H1406.pick (t := 5) rfl (H1406.pick (t := 2) rfl (H1406.pick (t := 3) rfl (H1406.pick (t := 113) rfl (H1406.pick (t := 115) rfl (H1406.pick (t := 117) rfl H1406.nil))))))))), O1408.sel [0, 1, 2, 3, 4, 5, 6, 7] (by decide)⟩
  refine gw_new H1394 O1395 (want_none rfl) rfl (by decide) (op_alloc gwzer31 rfl) ?_
  intro g1409 _ w1411 H1412 O1413; clear H1394 O1395
  have O1414 : Own w w1411 [Bk g1409 [J 0, J 0, J 0, J 0, J 0, J 0, J 0, J 0] 31, Bk g572 [J 0, J 0, J 0, J 0, J 0, J 0, J 0, J 0] 31, Bk g284 [.string su, .string bo, .slice A260 ((ps ++ qs).length) c261] 24, Bk gq [.string su, .string bo, .slice Aq ((ps ++ qs).length) cq] 24, Chunk.frz wq Sq, Bk g8 [.string su2, .string bo2, .slice A1 qs.length c1] 24, Bk g2 [.string su, .string bo, .slice A0 ps.length c0] 24, Chunk.frz wz262 S263] := O1413
  clear O1413
  refine gx_on (i := 7) (B := (fun j_ => false)) (fun _ => (by exact O1414.sel [2, 3, 4, 5, 6, 7] (by decide))) ?_
  exact J1283 _ _ ⟨g1409, g572, (H1412.pick (t := 114) rfl (H1412.pick (t := 13) rfl (H1412.pick (t := 14) rfl (H1412.pick (t := 5) rfl (H1412.pick (t := 2) rfl (H1412.pick (t := 3) rfl (H1412.pick (t := 113) rfl (H1412.pick (t := 115) rfl (H1412.pick (t := 117) rfl H1412.nil))))))))), O1414.sel [0, 1, 2, 3, 4, 5, 6, 7] (by decide)⟩
 refine gx_cut (fun a_ w_ => ∃ g560 g566 : Nat, Fr 134 a_ [(12, .pointer (some ⟨g560, 0, none⟩)), (13, .pointer (some ⟨g566, 0, none⟩)), (5, .pointer (some ⟨gq, 0, none⟩)), (2, .pointer (some ⟨g2, 0, none⟩)), (3, .pointer (some ⟨g8, 0, none⟩)), (113, .agg #[.string su, .string bo, .slice A0 ps.length c0]), (115, .agg #[.string su2, .string bo2, .slice A1 qs.length c1]), (117, .agg #[.string su, .string bo, .slice Aq ((ps ++ qs).length) cq])] ∧ Own w w_ [Bk g560 [J 0, J 0, J 0, J 0, J 0, J 0, J 0, J 0] 31, Bk g566 [J 0, J 0, J 0, J 0, J 0, J 0, J 0, J 0] 31, Bk g284 [.string su, .string bo, .slice A260 ((ps ++ qs).length) c261] 24, Bk gq [.string su, .string bo, .slice Aq ((ps ++ qs).length) cq] 24, Chunk.frz wq Sq, Bk g8 [.string su2, .string bo2, .slice A1 qs.length c1] 24, Bk g2 [.string su, .string bo, .slice A0 ps.length c0] 24, Chunk.frz wz262 S263]) #[true, false, true, false, true, false, true, true, false, false, false, false] 7 ?_ fun J1415 => ?_
 ·
  rintro _ w1417 ⟨g560, g566, H1418, O1419⟩
  refine gx_two 1 8 rfl rfl (by kernel_rfl) ?_ ?_
  ·
   refine Wk H1418 Tryd.func12 rfl (ar_cons (H1418.ev rfl) ar_nil) (totals_calls su bo A0 c0 ps _ (Kd.C_below hr O1419.below) hc (by omega)) ?_
   rintro e1420 w1421 ⟨rfl, hb1422⟩
   refine ⟨_, rfl, fun _ H1424 => ?_⟩
   have O1425 := O1419.after hb1422
   clear H1418 O1419 hb1422
   refine gx_on (i := 1) (B := (fun j_ => false)) (fun _ => (by exact O1425.sel [2, 3, 4, 5, 6, 7] (by decide))) ?_
   exact J1247 _ _ ⟨g560, g566, (H1424.pick (t := 114) rfl (H1424.pick (t := 12) rfl (H1424.pick (t := 13) rfl (H1424.pick (t := 5) rfl (H1424.pick (t := 2) rfl (H1424.pick (t := 3) rfl (H1424.pick (t := 113) rfl (H1424.pick (t := 115) rfl (H1424.pick (t := 117) rfl H1424.nil))))))))), O1425.sel [0, 1, 2, 3, 4, 5, 6, 7] (by decide)⟩
  refine gw_new H1418 O1419 (want_none rfl) rfl (by decide) (op_alloc gwzer31 rfl) ?_
  intro g1427 _ w1429 H1430 O1431; clear H1418 O1419
  have O1432 : Own w w1429 [Bk g1427 [J 0, J 0, J 0, J 0, J 0, J 0, J 0, J 0] 31, Bk g560 [J 0, J 0, J 0, J 0, J 0, J 0, J 0, J 0] 31, Bk g566 [J 0, J 0, J 0, J 0, J 0, J 0, J 0, J 0] 31, Bk g284 [.string su, .string bo, .slice A260 ((ps ++ qs).length) c261] 24, Bk gq [.string su, .string bo, .slice Aq ((ps ++ qs).length) cq] 24, Chunk.frz wq Sq, Bk g8 [.string su2, .string bo2, .slice A1 qs.length c1] 24, Bk g2 [.string su, .string bo, .slice A0 ps.length c0] 24, Chunk.frz wz262 S263] := O1431
  clear O1431
  refine gx_on (i := 8) (B := (fun j_ => false)) (fun _ => (by exact O1432.sel [3, 4, 5, 6, 7, 8] (by decide))) ?_
  exact J1301 _ _ ⟨g560, g566, g1427, (H1430.pick (t := 12) rfl (H1430.pick (t := 13) rfl (H1430.pick (t := 14) rfl (H1430.pick (t := 5) rfl (H1430.pick (t := 2) rfl (H1430.pick (t := 3) rfl (H1430.pick (t := 113) rfl (H1430.pick (t := 115) rfl (H1430.pick (t := 117) rfl H1430.nil))))))))), O1432.sel [1, 2, 0, 3, 4, 5, 6, 7, 8] (by decide)⟩
 refine gx_cut (fun a_ w_ => ∃ g560 g572 : Nat, Fr 134 a_ [(12, .pointer (some ⟨g560, 0, none⟩)), (14, .pointer (some ⟨g572, 0, none⟩)), (5, .pointer (some ⟨gq, 0, none⟩)), (2, .pointer (some ⟨g2, 0, none⟩)), (3, .pointer (some ⟨g8, 0, none⟩)), (113, .agg #[.string su, .string bo, .slice A0 ps.length c0]), (115, .agg #[.string su2, .string bo2, .slice A1 qs.length c1]), (117, .agg #[.string su, .string bo, .slice Aq ((ps ++ qs).length) cq])] ∧ Own w w_ [Bk g560 [J 0, J 0, J 0, J 0, J 0, J 0, J 0, J 0] 31, Bk g572 [J 0, J 0, J 0, J 0, J 0, J 0, J 0, J 0] 31, Bk g284 [.string su, .string bo, .slice A260 ((ps ++ qs).length) c261] 24, Bk gq [.string su, .string bo, .slice Aq ((ps ++ qs).length) cq] 24, Chunk.frz wq Sq, Bk g8 [.string su2, .string bo2, .slice A1 qs.length c1] 24, Bk g2 [.string su, .string bo, .slice A0 ps.length c0] 24, Chunk.frz wz262 S263]) #[true, false, true, false, true, false, true, false, true, false, false, false] 7 ?_ fun J1433 => ?_
 ·
  rintro _ w1435 ⟨g560, g572, H1436, O1437⟩
  refine gx_two 1 7 rfl rfl (by kernel_rfl) ?_ ?_
  ·
   refine Wk H1436 Tryd.func12 rfl (ar_cons (H1436.ev rfl) ar_nil) (totals_calls su bo A0 c0 ps _ (Kd.C_below hr O1437.below) hc (by omega)) ?_
   rintro e1438 w1439 ⟨rfl, hb1440⟩
   refine ⟨_, rfl, fun _ H1442 => ?_⟩
   have O1443 := O1437.after hb1440
   clear H1436 O1437 hb1440
   refine gx_on (i := 1) (B := (fun j_ => false)) (fun _ => (by exact O1443.sel [2, 3, 4, 5, 6, 7] (by decide))) ?_
   exact J1265 _ _ ⟨g560, g572, (H1442.pick (t := 114) rfl (H1442.pick (t := 12) rfl (H1442.pick (t := 14) rfl (H1442.pick (t := 5) rfl (H1442.pick (t := 2) rfl (H1442.pick (t := 3) rfl (H1442.pick (t := 113) rfl (H1442.pick (t := 115) rfl (H1442.pick (t := 117) rfl H1442.nil))))))))), O1443.sel [0, 1, 2, 3, 4, 5, 6, 7] (by decide)⟩
  refine gw_new H1436 O1437 (want_none rfl) rfl (by decide) (op_alloc gwzer31 rfl) ?_
  intro g1445 _ w1447 H1448 O1449; clear H1436 O1437
  have O1450 : Own w w1447 [Bk g1445 [J 0, J 0, J 0, J 0, J 0, J 0, J 0, J 0] 31, Bk g560 [J 0, J 0, J 0, J 0, J 0, J 0, J 0, J 0] 31, Bk g572 [J 0, J 0, J 0, J 0, J 0, J 0, J 0, J 0] 31, Bk g284 [.string su, .string bo, .slice A260 ((ps ++ qs).length) c261] 24, Bk gq [.string su, .string bo, .slice Aq ((ps ++ qs).length) cq] 24, Chunk.frz wq Sq, Bk g8 [.string su2, .string bo2, .slice A1 qs.length c1] 24, Bk g2 [.string su, .string bo, .slice A0 ps.length c0] 24, Chunk.frz wz262 S263] := O1449
  clear O1449
  refine gx_on (i := 7) (B := (fun j_ => false)) (fun _ => (by exact O1450.sel [3, 4, 5, 6, 7, 8] (by decide))) ?_
  exact J1301 _ _ ⟨g560, g1445, g572, (H1448.pick (t := 12) rfl (H1448.pick (t := 13) rfl (H1448.pick (t := 14) rfl (H1448.pick (t := 5) rfl (H1448.pick (t := 2) rfl (H1448.pick (t := 3) rfl (H1448.pick (t := 113) rfl (H1448.pick (t := 115) rfl (H1448.pick (t := 117) rfl H1448.nil))))))))), O1450.sel [1, 0, 2, 3, 4, 5, 6, 7, 8] (by decide)⟩
 refine gx_cut (fun a_ w_ => ∃ g566 g572 : Nat, Fr 134 a_ [(13, .pointer (some ⟨g566, 0, none⟩)), (14, .pointer (some ⟨g572, 0, none⟩)), (5, .pointer (some ⟨gq, 0, none⟩)), (2, .pointer (some ⟨g2, 0, none⟩)), (3, .pointer (some ⟨g8, 0, none⟩)), (113, .agg #[.string su, .string bo, .slice A0 ps.length c0]), (115, .agg #[.string su2, .string bo2, .slice A1 qs.length c1]), (117, .agg #[.string su, .string bo, .slice Aq ((ps ++ qs).length) cq])] ∧ Own w w_ [Bk g566 [J 0, J 0, J 0, J 0, J 0, J 0, J 0, J 0] 31, Bk g572 [J 0, J 0, J 0, J 0, J 0, J 0, J 0, J 0] 31, Bk g284 [.string su, .string bo, .slice A260 ((ps ++ qs).length) c261] 24, Bk gq [.string su, .string bo, .slice Aq ((ps ++ qs).length) cq] 24, Chunk.frz wq Sq, Bk g8 [.string su2, .string bo2, .slice A1 qs.length c1] 24, Bk g2 [.string su, .string bo, .slice A0 ps.length c0] 24, Chunk.frz wz262 S263]) #[true, false, true, false, true, false, false, true, true, false, false, false] 7 ?_ fun J1451 => ?_
 ·
  rintro _ w1453 ⟨g566, g572, H1454, O1455⟩
  refine gx_two 1 6 rfl rfl (by kernel_rfl) ?_ ?_
  ·
   refine Wk H1454 Tryd.func12 rfl (ar_cons (H1454.ev rfl) ar_nil) (totals_calls su bo A0 c0 ps _ (Kd.C_below hr O1455.below) hc (by omega)) ?_
   rintro e1456 w1457 ⟨rfl, hb1458⟩
   refine ⟨_, rfl, fun _ H1460 => ?_⟩
   have O1461 := O1455.after hb1458
   clear H1454 O1455 hb1458
   refine gx_on (i := 1) (B := (fun j_ => false)) (fun _ => (by exact O1461.sel [2, 3, 4, 5, 6, 7] (by decide))) ?_
   exact J1283 _ _ ⟨g566, g572, (H1460.pick (t := 114) rfl (H1460.pick (t := 13) rfl (H1460.pick (t := 14) rfl (H1460.pick (t := 5) rfl (H1460.pick (t := 2) rfl (H1460.pick (t := 3) rfl (H1460.pick (t := 113) rfl (H1460.pick (t := 115) rfl (H1460.pick (t := 117) rfl H1460.nil))))))))), O1461.sel [0, 1, 2, 3, 4, 5, 6, 7] (by decide)⟩
  refine gw_new H1454 O1455 (want_none rfl) rfl (by decide) (op_alloc gwzer31 rfl) ?_
  intro g1463 _ w1465 H1466 O1467; clear H1454 O1455
  have O1468 : Own w w1465 [Bk g1463 [J 0, J 0, J 0, J 0, J 0, J 0, J 0, J 0] 31, Bk g566 [J 0, J 0, J 0, J 0, J 0, J 0, J 0, J 0] 31, Bk g572 [J 0, J 0, J 0, J 0, J 0, J 0, J 0, J 0] 31, Bk g284 [.string su, .string bo, .slice A260 ((ps ++ qs).length) c261] 24, Bk gq [.string su, .string bo, .slice Aq ((ps ++ qs).length) cq] 24, Chunk.frz wq Sq, Bk g8 [.string su2, .string bo2, .slice A1 qs.length c1] 24, Bk g2 [.string su, .string bo, .slice A0 ps.length c0] 24, Chunk.frz wz262 S263] := O1467
  clear O1467
  refine gx_on (i := 6) (B := (fun j_ => false)) (fun _ => (by exact O1468.sel [3, 4, 5, 6, 7, 8] (by decide))) ?_
  exact J1301 _ _ ⟨g1463, g566, g572, (H1466.pick (t := 12) rfl (H1466.pick (t := 13) rfl (H1466.pick (t := 14) rfl (H1466.pick (t := 5) rfl (H1466.pick (t := 2) rfl (H1466.pick (t := 3) rfl (H1466.pick (t := 113) rfl (H1466.pick (t := 115) rfl (H1466.pick (t := 117) rfl H1466.nil))))))))), O1468.sel [0, 1, 2, 3, 4, 5, 6, 7, 8] (by decide)⟩
 refine gx_cut (fun a_ w_ => Fr 134 a_ [(114, .agg #[J (totL ps 0), J (totL ps 1), J (totL ps 2), J (totL ps 3), J (totL ps 4), J (totL ps 5), J (totL ps 6), J (totL ps 7)]), (5, .pointer (some ⟨gq, 0, none⟩)), (2, .pointer (some ⟨g2, 0, none⟩)), (3, .pointer (some ⟨g8, 0, none⟩)), (113, .agg #[.string su, .string bo, .slice A0 ps.length c0]), (115, .agg #[.string su2, .string bo2, .slice A1 qs.length c1]), (117, .agg #[.string su, .string bo, .slice Aq ((ps ++ qs).length) cq])] ∧ Own w w_ [Bk g284 [.string su, .string bo, .slice A260 ((ps ++ qs).length) c261] 24, Bk gq [.string su, .string bo, .slice Aq ((ps ++ qs).length) cq] 24, Chunk.frz wq Sq, Bk g8 [.string su2, .string bo2, .slice A1 qs.length c1] 24, Bk g2 [.string su, .string bo, .slice A0 ps.length c0] 24, Chunk.frz wz262 S263]) #[true, true, true, false, true, false, false, false, false, false, false, false] 8 ?_ fun J1469 => ?_
 ·
  rintro _ w1471 ⟨H1472, O1473⟩
  refine gx_step4 3 6 7 8 rfl rfl rfl rfl (by kernel_rfl) ?_ ?_ ?_ ?_
  ·
   refine Wk H1472 Tryd.func12 rfl (ar_cons (H1472.ev rfl) ar_nil) (totals_calls su2 bo2 A1 c1 qs _ (Kd.C_below hr1 O1473.below) hc1 (by omega)) ?_
   rintro e1474 w1475 ⟨rfl, hb1476⟩
   refine ⟨_, rfl, fun _ H1478 => ?_⟩
   have O1479 := O1473.after hb1476
   clear H1472 O1473 hb1476
   refine gx_on (i := 3) (B := (fun j_ => false)) (fun _ => (by exact O1479.sel [0, 1, 2, 3, 4, 5] (by decide))) ?_
   exact J1313 _ _ ⟨(H1478.pick (t := 114) rfl (H1478.pick (t := 116) rfl (H1478.pick (t := 5) rfl (H1478.pick (t := 2) rfl (H1478.pick (t := 3) rfl (H1478.pick (t := 113) rfl (H1478.pick (t := 115) rfl (H1478.pick (t := 117) rfl H1478.nil)))))))), O1479.sel [0, 1, 2, 3, 4, 5] (by decide)⟩
  ·
   refine gw_new H1472 O1473 (want_none rfl) rfl (by decide) (op_alloc gwzer31 rfl) ?_
   intro g1481 _ w1483 H1484 O1485; clear H1472 O1473
   have O1486 : Own w w1483 [Bk g1481 [J 0, J 0, J 0, J 0, J 0, J 0, J 0, J 0] 31, Bk g284 [.string su, .string bo, .slice A260 ((ps ++ qs).length) c261] 24, Bk gq [.string su, .string bo, .slice Aq ((ps ++ qs).length) cq] 24, Chunk.frz wq Sq, Bk g8 [.string su2, .string bo2, .slice A1 qs.length c1] 24, Bk g2 [.string su, .string bo, .slice A0 ps.length c0] 24, Chunk.frz wz262 S263] := O1485
   clear O1485
   refine gx_on (i := 6) (B := (fun j_ => false)) (fun _ => (by exact O1486.sel [1, 2, 3, 4, 5, 6] (by decide))) ?_
   exact J1343 _ _ ⟨g1481, (H1484.pick (t := 114) rfl (H1484.pick (t := 12) rfl (H1484.pick (t := 5) rfl (H1484.pick (t := 2) rfl (H1484.pick (t := 3) rfl (H1484.pick (t := 113) rfl (H1484.pick (t := 115) rfl (H1484.pick (t := 117) rfl H1484.nil)))))))), O1486.sel [0, 1, 2, 3, 4, 5, 6] (by decide)⟩
  ·
   refine gw_new H1472 O1473 (want_none rfl) rfl (by decide) (op_alloc gwzer31 rfl) ?_
   intro g1487 _ w1489 H1490 O1491; clear H1472 O1473
   have O1492 : Own w w1489 [Bk g1487 [J 0, J 0, J 0, J 0, J 0, J 0, J 0, J 0] 31, Bk g284 [.string su, .string bo, .slice A260 ((ps ++ qs).length) c261] 24, Bk gq [.string su, .string bo, .slice Aq ((ps ++ qs).length) cq] 24, Chunk.frz wq Sq, Bk g8 [.string su2, .string bo2, .slice A1 qs.length c1] 24, Bk g2 [.string su, .string bo, .slice A0 ps.length c0] 24, Chunk.frz wz262 S263] := O1491
   clear O1491
   refine gx_on (i := 7) (B := (fun j_ => false)) (fun _ => (by exact O1492.sel [1, 2, 3, 4, 5, 6] (by decide))) ?_
   exact J1367 _ _ ⟨g1487, (H1490.pick (t := 114) rfl (H1490.pick (t := 13) rfl (H1490.pick (t := 5) rfl (H1490.pick (t := 2) rfl (H1490.pick (t := 3) rfl (H1490.pick (t := 113) rfl (H1490.pick (t := 115) rfl (H1490.pick (t := 117) rfl H1490.nil)))))))), O1492.sel [0, 1, 2, 3, 4, 5, 6] (by decide)⟩
  refine gw_new H1472 O1473 (want_none rfl) rfl (by decide) (op_alloc gwzer31 rfl) ?_
  intro g1493 _ w1495 H1496 O1497; clear H1472 O1473
  have O1498 : Own w w1495 [Bk g1493 [J 0, J 0, J 0, J 0, J 0, J 0, J 0, J 0] 31, Bk g284 [.string su, .string bo, .slice A260 ((ps ++ qs).length) c261] 24, Bk gq [.string su, .string bo, .slice Aq ((ps ++ qs).length) cq] 24, Chunk.frz wq Sq, Bk g8 [.string su2, .string bo2, .slice A1 qs.length c1] 24, Bk g2 [.string su, .string bo, .slice A0 ps.length c0] 24, Chunk.frz wz262 S263] := O1497
  clear O1497
  refine gx_on (i := 8) (B := (fun j_ => false)) (fun _ => (by exact O1498.sel [1, 2, 3, 4, 5, 6] (by decide))) ?_
  exact J1391 _ _ ⟨g1493, (H1496.pick (t := 114) rfl (H1496.pick (t := 14) rfl (H1496.pick (t := 5) rfl (H1496.pick (t := 2) rfl (H1496.pick (t := 3) rfl (H1496.pick (t := 113) rfl (H1496.pick (t := 115) rfl (H1496.pick (t := 117) rfl H1496.nil)))))))), O1498.sel [0, 1, 2, 3, 4, 5, 6] (by decide)⟩
 refine gx_cut (fun a_ w_ => ∃ g560 : Nat, Fr 134 a_ [(12, .pointer (some ⟨g560, 0, none⟩)), (5, .pointer (some ⟨gq, 0, none⟩)), (2, .pointer (some ⟨g2, 0, none⟩)), (3, .pointer (some ⟨g8, 0, none⟩)), (113, .agg #[.string su, .string bo, .slice A0 ps.length c0]), (115, .agg #[.string su2, .string bo2, .slice A1 qs.length c1]), (117, .agg #[.string su, .string bo, .slice Aq ((ps ++ qs).length) cq])] ∧ Own w w_ [Bk g560 [J 0, J 0, J 0, J 0, J 0, J 0, J 0, J 0] 31, Bk g284 [.string su, .string bo, .slice A260 ((ps ++ qs).length) c261] 24, Bk gq [.string su, .string bo, .slice Aq ((ps ++ qs).length) cq] 24, Chunk.frz wq Sq, Bk g8 [.string su2, .string bo2, .slice A1 qs.length c1] 24, Bk g2 [.string su, .string bo, .slice A0 ps.length c0] 24, Chunk.frz wz262 S263]) #[true, false, true, false, true, false, true, false, false, false, false, false] 8 ?_ fun J1499 => ?_
 ·
  rintro _ w1501 ⟨g560, H1502, O1503⟩
  refine gx_step3 1 7 8 rfl rfl rfl (by kernel_rfl) ?_ ?_ ?_
  ·
   refine Wk H1502 Tryd.func12 rfl (ar_cons (H1502.ev rfl) ar_nil) (totals_calls su bo A0 c0 ps _ (Kd.C_below hr O1503.below) hc (by omega)) ?_
   rintro e1504 w1505 ⟨rfl, hb1506⟩
   refine ⟨_, rfl, fun _ H1508 => ?_⟩
   have O1509 := O1503.after hb1506
   clear H1502 O1503 hb1506
   refine gx_on (i := 1) (B := (fun j_ => false)) (fun _ => (by exact O1509.sel [1, 2, 3, 4, 5, 6] (by decide))) ?_
   exact J1343 _ _ ⟨g560, (H1508.pick (t := 114) rfl (H1508.pick (t := 12) rfl (H1508.pick (t := 5) rfl (H1508.pick (t := 2) rfl (H1508.pick (t := 3) rfl (H1508.pick (t := 113) rfl (H1508.pick (t := 115) rfl (H1508.pick (t := 117) rfl H1508.nil)))))))), O1509.sel [0, 1, 2, 3, 4, 5, 6] (by decide)⟩
  ·
   refine gw_new H1502 O1503 (want_none rfl) rfl (by decide) (op_alloc gwzer31 rfl) ?_
   intro g1511 _ w1513 H1514 O1515; clear H1502 O1503
   have O1516 : Own w w1513 [Bk g1511 [J 0, J 0, J 0, J 0, J 0, J 0, J 0, J 0] 31, Bk g560 [J 0, J 0, J 0, J 0, J 0, J 0, J 0, J 0] 31, Bk g284 [.string su, .string bo, .slice A260 ((ps ++ qs).length) c261] 24, Bk gq [.string su, .string bo, .slice Aq ((ps ++ qs).length) cq] 24, Chunk.frz wq Sq, Bk g8 [.string su2, .string bo2, .slice A1 qs.length c1] 24, Bk g2 [.string su, .string bo, .slice A0 ps.length c0] 24, Chunk.frz wz262 S263] := O1515
   clear O1515
   refine gx_on (i := 7) (B := (fun j_ => false)) (fun _ => (by exact O1516.sel [2, 3, 4, 5, 6, 7] (by decide))) ?_
   exact J1415 _ _ ⟨g560, g1511, (H1514.pick (t := 12) rfl (H1514.pick (t := 13) rfl (H1514.pick (t := 5) rfl (H1514.pick (t := 2) rfl (H1514.pick (t := 3) rfl (H1514.pick (t := 113) rfl (H1514.pick (t := 115) rfl (H1514.pick (t := 117) rfl H1514.nil)))))))), O1516.sel [1, 0, 2, 3, 4, 5, 6, 7] (by decide)⟩
  refine gw_new H1502 O1503 (want_none rfl) rfl (by decide) (op_alloc gwzer31 rfl) ?_
  intro g1517 _ w1519 H1520 O1521; clear H1502 O1503
  have O1522 : Own w w1519 [Bk g1517 [J 0, J 0, J 0, J 0, J 0, J 0, J 0, J 0] 31, Bk g560 [J 0, J 0, J 0, J 0, J 0, J 0, J 0, J 0] 31, Bk g284 [.string su, .string bo, .slice A260 ((ps ++ qs).length) c261] 24, Bk gq [.string su, .string bo, .slice Aq ((ps ++ qs).length) cq] 24, Chunk.frz wq Sq, Bk g8 [.string su2, .string bo2, .slice A1 qs.length c1] 24, Bk g2 [.string su, .string bo, .slice A0 ps.length c0] 24, Chunk.frz wz262 S263] := O1521
  clear O1521
  refine gx_on (i := 8) (B := (fun j_ => false)) (fun _ => (by exact O1522.sel [2, 3, 4, 5, 6, 7] (by decide))) ?_
  exact J1433 _ _ ⟨g560, g1517, (H1520.pick (t := 12) rfl (H1520.pick (t := 14) rfl (H1520.pick (t := 5) rfl (H1520.pick (t := 2) rfl (H1520.pick (t := 3) rfl (H1520.pick (t := 113) rfl (H1520.pick (t := 115) rfl (H1520.pick (t := 117) rfl H1520.nil)))))))), O1522.sel [1, 0, 2, 3, 4, 5, 6, 7] (by decide)⟩
 refine gx_cut (fun a_ w_ => ∃ g566 : Nat, Fr 134 a_ [(13, .pointer (some ⟨g566, 0, none⟩)), (5, .pointer (some ⟨gq, 0, none⟩)), (2, .pointer (some ⟨g2, 0, none⟩)), (3, .pointer (some ⟨g8, 0, none⟩)), (113, .agg #[.string su, .string bo, .slice A0 ps.length c0]), (115, .agg #[.string su2, .string bo2, .slice A1 qs.length c1]), (117, .agg #[.string su, .string bo, .slice Aq ((ps ++ qs).length) cq])] ∧ Own w w_ [Bk g566 [J 0, J 0, J 0, J 0, J 0, J 0, J 0, J 0] 31, Bk g284 [.string su, .string bo, .slice A260 ((ps ++ qs).length) c261] 24, Bk gq [.string su, .string bo, .slice Aq ((ps ++ qs).length) cq] 24, Chunk.frz wq Sq, Bk g8 [.string su2, .string bo2, .slice A1 qs.length c1] 24, Bk g2 [.string su, .string bo, .slice A0 ps.length c0] 24, Chunk.frz wz262 S263]) #[true, false, true, false, true, false, false, true, false, false, false, false] 8 ?_ fun J1523 => ?_
 ·
  rintro _ w1525 ⟨g566, H1526, O1527⟩
  refine gx_step3 1 6 8 rfl rfl rfl (by kernel_rfl) ?_ ?_ ?_
  ·
   refine Wk H1526 Tryd.func12 rfl (ar_cons (H1526.ev rfl) ar_nil) (totals_calls su bo A0 c0 ps _ (Kd.C_below hr O1527.below) hc (by omega)) ?_
   rintro e1528 w1529 ⟨rfl, hb1530⟩
   refine ⟨_, rfl, fun _ H1532 => ?_⟩
   have O1533 := O1527.after hb1530
   clear H1526 O1527 hb1530
   refine gx_on (i := 1) (B := (fun j_ => false)) (fun _ => (by exact O1533.sel [1, 2, 3, 4, 5, 6] (by decide))) ?_
   exact J1367 _ _ ⟨g566, (H1532.pick (t := 114) rfl (H1532.pick (t := 13) rfl (H1532.pick (t := 5) rfl (H1532.pick (t := 2) rfl (H1532.pick (t := 3) rfl (H1532.pick (t := 113) rfl (H1532.pick (t := 115) rfl (H1532.pick (t := 117) rfl H1532.nil)))))))), O1533.sel [0, 1, 2, 3, 4, 5, 6] (by decide)⟩
  ·
   refine gw_new H1526 O1527 (want_none rfl) rfl (by decide) (op_alloc gwzer31 rfl) ?_
   intro g1535 _ w1537 H1538 O1539; clear H1526 O1527
   have O1540 : Own w w1537 [Bk g1535 [J 0, J 0, J 0, J 0, J 0, J 0, J 0, J 0] 31, Bk g566 [J 0, J 0, J 0, J 0, J 0, J 0, J 0, J 0] 31, Bk g284 [.string su, .string bo, .slice A260 ((ps ++ qs).length) c261] 24, Bk gq [.string su, .string bo, .slice Aq ((ps ++ qs).length) cq] 24, Chunk.frz wq Sq, Bk g8 [.string su2, .string bo2, .slice A1 qs.length c1] 24, Bk g2 [.string su, .string bo, .slice A0 ps.length c0] 24, Chunk.frz wz262 S263] := O1539
   clear O1539
   refine gx_on (i := 6) (B := (fun j_ => false)) (fun _ => (by exact O1540.sel [2, 3, 4, 5, 6, 7] (by decide))) ?_
   exact J1415 _ _ ⟨g1535, g566, (H1538.pick (t := 12) rfl (H1538.pick (t := 13) rfl (H1538.pick (t := 5) rfl (H1538.pick (t := 2) rfl (H1538.pick (t := 3) rfl (H1538.pick (t := 113) rfl (H1538.pick (t := 115) rfl (H1538.pick (t := 117) rfl H1538.nil)))))))), O1540.sel [0, 1, 2, 3, 4, 5, 6, 7] (by decide)⟩
  refine gw_new H1526 O1527 (want_none rfl) rfl (by decide) (op_alloc gwzer31 rfl) ?_
  intro g1541 _ w1543 H1544 O1545; clear H1526 O1527
  have O1546 : Own w w1543 [Bk g1541 [J 0, J 0, J 0, J 0, J 0, J 0, J 0, J 0] 31, Bk g566 [J 0, J 0, J 0, J 0, J 0, J 0, J 0, J 0] 31, Bk g284 [.string su, .string bo, .slice A260 ((ps ++ qs).length) c261] 24, Bk gq [.string su, .string bo, .slice Aq ((ps ++ qs).length) cq] 24, Chunk.frz wq Sq, Bk g8 [.string su2, .string bo2, .slice A1 qs.length c1] 24, Bk g2 [.string su, .string bo, .slice A0 ps.length c0] 24, Chunk.frz wz262 S263] := O1545
  clear O1545
  refine gx_on (i := 8) (B := (fun j_ => false)) (fun _ => (by exact O1546.sel [2, 3, 4, 5, 6, 7] (by decide))) ?_
  exact J1451 _ _ ⟨g566, g1541, (H1544.pick (t := 13) rfl (H1544.pick (t := 14) rfl (H1544.pick (t := 5) rfl (H1544.pick (t := 2) rfl (H1544.pick (t := 3) rfl (H1544.pick (t := 113) rfl (H1544.pick (t := 115) rfl (H1544.pick (t := 117) rfl H1544.nil)))))))), O1546.sel [1, 0, 2, 3, 4, 5, 6, 7] (by decide)⟩
 refine gx_cut (fun a_ w_ => ∃ g572 : Nat, Fr 134 a_ [(14, .pointer (some ⟨g572, 0, none⟩)), (5, .pointer (some ⟨gq, 0, none⟩)), (2, .pointer (some ⟨g2, 0, none⟩)), (3, .pointer (some ⟨g8, 0, none⟩)), (113, .agg #[.string su, .string bo, .slice A0 ps.length c0]), (115, .agg #[.string su2, .string bo2, .slice A1 qs.length c1]), (117, .agg #[.string su, .string bo, .slice Aq ((ps ++ qs).length) cq])] ∧ Own w w_ [Bk g572 [J 0, J 0, J 0, J 0, J 0, J 0, J 0, J 0] 31, Bk g284 [.string su, .string bo, .slice A260 ((ps ++ qs).length) c261] 24, Bk gq [.string su, .string bo, .slice Aq ((ps ++ qs).length) cq] 24, Chunk.frz wq Sq, Bk g8 [.string su2, .string bo2, .slice A1 qs.length c1] 24, Bk g2 [.string su, .string bo, .slice A0 ps.length c0] 24, Chunk.frz wz262 S263]) #[true, false, true, false, true, false, false, false, true, false, false, false] 8 ?_ fun J1547 => ?_
 ·
  rintro _ w1549 ⟨g572, H1550, O1551⟩
  refine gx_step3 1 6 7 rfl rfl rfl (by kernel_rfl) ?_ ?_ ?_
  ·
   refine Wk H1550 Tryd.func12 rfl (ar_cons (H1550.ev rfl) ar_nil) (totals_calls su bo A0 c0 ps _ (Kd.C_below hr O1551.below) hc (by omega)) ?_
   rintro e1552 w1553 ⟨rfl, hb1554⟩
   refine ⟨_, rfl, fun _ H1556 => ?_⟩
   have O1557 := O1551.after hb1554
   clear H1550 O1551 hb1554
   refine gx_on (i := 1) (B := (fun j_ => false)) (fun _ => (by exact O1557.sel [1, 2, 3, 4, 5, 6] (by decide))) ?_
   exact J1391 _ _ ⟨g572, (H1556.pick (t := 114) rfl (H1556.pick (t := 14) rfl (H1556.pick (t := 5) rfl (H1556.pick (t := 2) rfl (H1556.pick (t := 3) rfl (H1556.pick (t := 113) rfl (H1556.pick (t := 115) rfl (H1556.pick (t := 117) rfl H1556.nil)))))))), O1557.sel [0, 1, 2, 3, 4, 5, 6] (by decide)⟩
  ·
   refine gw_new H1550 O1551 (want_none rfl) rfl (by decide) (op_alloc gwzer31 rfl) ?_
   intro g1559 _ w1561 H1562 O1563; clear H1550 O1551
   have O1564 : Own w w1561 [Bk g1559 [J 0, J 0, J 0, J 0, J 0, J 0, J 0, J 0] 31, Bk g572 [J 0, J 0, J 0, J 0, J 0, J 0, J 0, J 0] 31, Bk g284 [.string su, .string bo, .slice A260 ((ps ++ qs).length) c261] 24, Bk gq [.string su, .string bo, .slice Aq ((ps ++ qs).length) cq] 24, Chunk.frz wq Sq, Bk g8 [.string su2, .string bo2, .slice A1 qs.length c1] 24, Bk g2 [.string su, .string bo, .slice A0 ps.length c0] 24, Chunk.frz wz262 S263] := O1563
   clear O1563
   refine gx_on (i := 6) (B := (fun j_ => false)) (fun _ => (by exact O1564.sel [2, 3, 4, 5, 6, 7] (by decide))) ?_
   exact J1433 _ _ ⟨g1559, g572, (H1562.pick (t := 12) rfl (H1562.pick (t := 14) rfl (H1562.pick (t := 5) rfl (H1562.pick (t := 2) rfl (H1562.pick (t := 3) rfl (H1562.pick (t := 113) rfl (H1562.pick (t := 115) rfl (H1562.pick (t := 117) rfl H1562.nil)))))))), O1564.sel [0, 1, 2, 3, 4, 5, 6, 7] (by decide)⟩
  refine gw_new H1550 O1551 (want_none rfl) rfl (by decide) (op_alloc gwzer31 rfl) ?_
  intro g1565 _ w1567 H1568 O1569; clear H1550 O1551
  have O1570 : Own w w1567 [Bk g1565 [J 0, J 0, J 0, J 0, J 0, J 0, J 0, J 0] 31, Bk g572 [J 0, J 0, J 0, J 0, J 0, J 0, J 0, J 0] 31, Bk g284 [.string su, .string bo, .slice A260 ((ps ++ qs).length) c261] 24, Bk gq [.string su, .string bo, .slice Aq ((ps ++ qs).length) cq] 24, Chunk.frz wq Sq, Bk g8 [.string su2, .string bo2, .slice A1 qs.length c1] 24, Bk g2 [.string su, .string bo, .slice A0 ps.length c0] 24, Chunk.frz wz262 S263] := O1569
  clear O1569
  refine gx_on (i := 7) (B := (fun j_ => false)) (fun _ => (by exact O1570.sel [2, 3, 4, 5, 6, 7] (by decide))) ?_
  exact J1451 _ _ ⟨g1565, g572, (H1568.pick (t := 13) rfl (H1568.pick (t := 14) rfl (H1568.pick (t := 5) rfl (H1568.pick (t := 2) rfl (H1568.pick (t := 3) rfl (H1568.pick (t := 113) rfl (H1568.pick (t := 115) rfl (H1568.pick (t := 117) rfl H1568.nil)))))))), O1570.sel [0, 1, 2, 3, 4, 5, 6, 7] (by decide)⟩
 refine gx_step4 1 6 7 8 rfl rfl rfl rfl (by kernel_rfl) ?_ ?_ ?_ ?_
 ·
  refine Wk H552 Tryd.func12 rfl (ar_cons (H552.ev rfl) ar_nil) (totals_calls su bo A0 c0 ps _ (Kd.C_below hr O546.below) hc (by omega)) ?_
  rintro e1571 w1572 ⟨rfl, hb1573⟩
  refine ⟨_, rfl, fun _ H1575 => ?_⟩
  have O1576 := O546.after hb1573
  clear H552 O546 hb1573
  refine gx_on (i := 1) (B := (fun j_ => false)) (fun _ => (by exact O1576.sel [0, 1, 2, 3, 4, 5] (by decide))) ?_
  exact J1469 _ _ ⟨(H1575.pick (t := 114) rfl (H1575.pick (t := 5) rfl (H1575.pick (t := 2) rfl (H1575.pick (t := 3) rfl (H1575.pick (t := 113) rfl (H1575.pick (t := 115) rfl (H1575.pick (t := 117) rfl H1575.nil))))))), O1576.sel [0, 1, 2, 3, 4, 5] (by decide)⟩
 ·
  refine gw_new H552 O546 (want_none rfl) rfl (by decide) (op_alloc gwzer31 rfl) ?_
  intro g1578 _ w1580 H1581 O1582; clear H552 O546
  have O1583 : Own w w1580 [Bk g1578 [J 0, J 0, J 0, J 0, J 0, J 0, J 0, J 0] 31, Bk g284 [.string su, .string bo, .slice A260 ((ps ++ qs).length) c261] 24, Bk gq [.string su, .string bo, .slice Aq ((ps ++ qs).length) cq] 24, Chunk.frz wq Sq, Bk g8 [.string su2, .string bo2, .slice A1 qs.length c1] 24, Bk g2 [.string su, .string bo, .slice A0 ps.length c0] 24, Chunk.frz wz262 S263] := O1582
  clear O1582
  refine gx_on (i := 6) (B := (fun j_ => false)) (fun _ => (by exact O1583.sel [1, 2, 3, 4, 5, 6] (by decide))) ?_
  exact J1499 _ _ ⟨g1578, (H1581.pick (t := 12) rfl (H1581.pick (t := 5) rfl (H1581.pick (t := 2) rfl (H1581.pick (t := 3) rfl (H1581.pick (t := 113) rfl (H1581.pick (t := 115) rfl (H1581.pick (t := 117) rfl H1581.nil))))))), O1583.sel [0, 1, 2, 3, 4, 5, 6] (by decide)⟩
 ·
  refine gw_new H552 O546 (want_none rfl) rfl (by decide) (op_alloc gwzer31 rfl) ?_
  intro g1584 _ w1586 H1587 O1588; clear H552 O546
  have O1589 : Own w w1586 [Bk g1584 [J 0, J 0, J 0, J 0, J 0, J 0, J 0, J 0] 31, Bk g284 [.string su, .string bo, .slice A260 ((ps ++ qs).length) c261] 24, Bk gq [.string su, .string bo, .slice Aq ((ps ++ qs).length) cq] 24, Chunk.frz wq Sq, Bk g8 [.string su2, .string bo2, .slice A1 qs.length c1] 24, Bk g2 [.string su, .string bo, .slice A0 ps.length c0] 24, Chunk.frz wz262 S263] := O1588
  clear O1588
  refine gx_on (i := 7) (B := (fun j_ => false)) (fun _ => (by exact O1589.sel [1, 2, 3, 4, 5, 6] (by decide))) ?_
  exact J1523 _ _ ⟨g1584, (H1587.pick (t := 13) rfl (H1587.pick (t := 5) rfl (H1587.pick (t := 2) rfl (H1587.pick (t := 3) rfl (H1587.pick (t := 113) rfl (H1587.pick (t := 115) rfl (H1587.pick (t := 117) rfl H1587.nil))))))), O1589.sel [0, 1, 2, 3, 4, 5, 6] (by decide)⟩
 refine gw_new H552 O546 (want_none rfl) rfl (by decide) (op_alloc gwzer31 rfl) ?_
 intro g1590 _ w1592 H1593 O1594; clear H552 O546
 have O1595 : Own w w1592 [Bk g1590 [J 0, J 0, J 0, J 0, J 0, J 0, J 0, J 0] 31, Bk g284 [.string su, .string bo, .slice A260 ((ps ++ qs).length) c261] 24, Bk gq [.string su, .string bo, .slice Aq ((ps ++ qs).length) cq] 24, Chunk.frz wq Sq, Bk g8 [.string su2, .string bo2, .slice A1 qs.length c1] 24, Bk g2 [.string su, .string bo, .slice A0 ps.length c0] 24, Chunk.frz wz262 S263] := O1594
 clear O1594
 refine gx_on (i := 8) (B := (fun j_ => false)) (fun _ => (by exact O1595.sel [1, 2, 3, 4, 5, 6] (by decide))) ?_
 exact J1547 _ _ ⟨g1590, (H1593.pick (t := 14) rfl (H1593.pick (t := 5) rfl (H1593.pick (t := 2) rfl (H1593.pick (t := 3) rfl (H1593.pick (t := 113) rfl (H1593.pick (t := 115) rfl (H1593.pick (t := 117) rfl H1593.nil))))))), O1595.sel [0, 1, 2, 3, 4, 5, 6] (by decide)⟩
end GParts_
export GParts_ (parts_walk)
open Classical in
noncomputable def colloquylaw20_SumParts.f (a0_0 : ByteArray) (a0_1 : ByteArray) (l0_2 : List S46) (a1_0 : ByteArray) (a1_1 : ByteArray) (l1_2 : List S46) : Option Bool := if (szP l0_2) ∧ (szP l1_2) then some true else none
theorem colloquylaw20_SumParts.calls (a0_0 : ByteArray) (a0_1 : ByteArray) (A0_2 : Option Addr) (c0_2 : Nat) (l0_2 : List S46) (a1_0 : ByteArray) (a1_1 : ByteArray) (A1_2 : Option Addr) (c1_2 : Nat) (l1_2 : List S46) (r : Bool) (w : World) (hr0_2 : Kd.C k46 w A0_2 l0_2.length l0_2) (hc0_2 : l0_2.length ≤ c0_2) (hr1_2 : Kd.C k46 w A1_2 l1_2.length l1_2) (hc1_2 : l1_2.length ≤ c1_2) (hL : LaidW w) (h : colloquylaw20_SumParts.f a0_0 a0_1 l0_2 a1_0 a1_1 l1_2 = some r) :
    Calls Tryd.prog 8 #[(.agg #[.string a0_0, .string a0_1, .slice A0_2 l0_2.length c0_2]), (.agg #[.string a1_0, .string a1_1, .slice A1_2 l1_2.length c1_2])] w fun e w' => e = .returned (.bool r) ∧ Below w.heap.size w w' := by
  unfold colloquylaw20_SumParts.f at h
  split at h
  · cases h; rename_i hh; exact parts_walk a0_0 a0_1 A0_2 c0_2 l0_2 a1_0 a1_1 A1_2 c1_2 l1_2 w hr0_2 hc0_2 hr1_2 hc1_2 hh.1 hh.2 hL
  · cases h
section
structure Opens {α : Type} (P : Program) (t : TypeId) (d : Kd α) (good : α → Prop) (wt : α → Nat) (sz : α → Prop) : Prop where
  run : ∀ {H : Type} (enc : TypeId × Value → H) (w : World) (spare : Nat → Bool) (held : Bool) (fuel : Nat) (cs : List Value) (x : DataW H × List MemPlace),
    DataW.trod enc P w 0 spare held fuel t cs = some x → ∃ y : α, d.K w y cs ∧ good y ∧ wt y ≤ Rows.uptoBulk x.1 ∧ ((∀ n ∈ x.1.weights P t, n ≤ reachBytes) → sz y)
structure OpensF {α : Type} (P : Program) (fs : List Field) (off : Nat) (d : Kd α) (good : α → Prop) (wt : α → Nat) (sz : α → Prop) : Prop where
  run : ∀ {H : Type} (enc : TypeId × Value → H) (w : World) (spare : Nat → Bool) (held : Bool) (fuel : Nat) (cs : List Value) (xs : List (DataW H × List MemPlace)),
    (fs.mapM fun f => DataW.trod enc P w 0 spare held fuel f.type ((cs.drop f.offset).take (P.cellsOf f.type))) = some xs →
      ∃ y : α, d.K w y ((cs.drop off).take d.sz) ∧ good y ∧ wt y ≤ Rows.uptoBulkAll (xs.map (·.1)) ∧ ((∀ n ∈ DataW.weightsEach P (fs.map (·.type)) (xs.map (·.1)), n ≤ reachBytes) → sz y)
section
variable {P : Program} {t e : TypeId}
theorem bulk_pos {H : Type} (d : DataW H) : 1 ≤ Rows.uptoBulk d := by
  cases d with
  | lit l => cases l <;> simp [Rows.uptoBulk]
  | nil => simp [Rows.uptoBulk]
  | ptr d => simp [Rows.uptoBulk]
  | slice elems spare => simp [Rows.uptoBulk]
  | agg parts => simp [Rows.uptoBulk]
  | iface t d => simp [Rows.uptoBulk]
  | map entries => simp [Rows.uptoBulk]
  | held h => simp [Rows.uptoBulk]
theorem opens_int {k : IntKind} (ht : P.underlying t = some (.int k)) : Opens P t (Kd.int k) (fun y => (Lit.int k y).wf = true) (fun _ => 1) (fun _ => True) :=
  ⟨fun enc w spare held fuel cs x h => by
    obtain ⟨n, rfl, rfl, hw⟩ := DataW.trod_int ht h
    exact ⟨n, rfl, hw, bulk_pos _, fun _ => trivial⟩⟩
theorem opens_string (ht : P.underlying t = some .string) : Opens P t Kd.string (fun s => s.size ≤ maxLen) (fun s => s.size + 1) (fun s => s.size ≤ reachBytes) :=
  ⟨fun enc w spare held fuel cs x h => by
    obtain ⟨s, rfl, rfl, hs⟩ := DataW.trod_string ht h
    have e : s.data.toList.length = s.size := by rw [Array.length_toList]; rfl
    refine ⟨s, rfl, hs, ?_, fun hn => ?_⟩
    · simp only [Rows.uptoBulk]
      omega
    · rw [← e]
      exact hn _ (by simp [DataW.weights])⟩
theorem bulkAll_map {H : Type} {α : Type} (wt : α → Nat) : ∀ (ds : List (DataW H)) (xs : List α), xs.length = ds.length → (∀ (i : Nat) (x : α) (d : DataW H), xs[i]? = some x → ds[i]? = some d → wt x ≤ Rows.uptoBulk d) → (xs.map wt).sum ≤ Rows.uptoBulkAll ds
  | [], [], _, _ => by simp
  | [], _ :: _, hl, _ => by simp at hl
  | _ :: _, [], hl, _ => by simp at hl
  | d :: ds, x :: xs, hl, h => by
    have h0 := h 0 x d rfl rfl
    have ih := bulkAll_map wt ds xs (by simpa using hl) (fun i x' d' h1 h2 => h (i + 1) x' d' (by simpa using h1) (by simpa using h2))
    simp only [List.map_cons, List.sum_cons, Rows.uptoBulkAll]
    omega
theorem cells_list {w : World} {base : Nat} {a : Addr} {n : Nat} {cs : List Value} (h : w.cells? base a n = some cs) : cs.length = n ∧ ∀ i u, cs[i]? = some u → w.cell? (a.add i) = some u := by
  unfold World.cells? at h
  split at h
  · have hl := mapM_some_length h
    rw [List.length_range] at hl
    refine ⟨hl, fun i u hu => ?_⟩
    have hi : i < n := by
      have := (List.getElem?_eq_some_iff.1 hu).1
      omega
    have := mapM_some_get h i i (by rw [List.getElem?_range hi])
    rw [this]
    exact hu
  · cases h
theorem mem_weightsAll {H : Type} {n : Nat} {d : DataW H} : ∀ {ds : List (DataW H)}, d ∈ ds → n ∈ d.weights P e → n ∈ DataW.weightsAll P e ds
  | [], h, _ => by cases h
  | c :: ds, h, hn => by
    simp only [DataW.weightsAll, List.mem_append]
    rcases List.mem_cons.1 h with rfl | h
    · exact .inl hn
    · exact .inr (mem_weightsAll h hn)
theorem opens_slice {α : Type} [Inhabited α] {d : Kd α} {good : α → Prop} {wt : α → Nat} {sz : α → Prop} {b : Nat} (hby : P.bytesOf e = b) (ht : P.underlying t = some (.slice e)) (hsz : P.cellsOf e = d.sz) (ho : Opens P e d good wt sz) :
    Opens P t (Kd.slice e d) (fun xs => xs.length ≤ maxLen ∧ ∀ x ∈ xs, good x) (fun xs => (xs.map wt).sum + 1) (fun xs => xs.length * b ≤ reachBytes ∧ ∀ x ∈ xs, sz x) :=
  ⟨fun enc w spare held fuel cs x h => by
    rcases Deep.open_slice ht h with ⟨rfl, rfl⟩ | ⟨a, len, cap, m, n, D, Pl, rfl, hb, hl, hm, hmm, rfl, hx⟩
    · refine ⟨[], ⟨none, 0, rfl, Nat.le_refl _, rfl, Nat.zero_le _, fun h => absurd h (by simp)⟩, ⟨by simp [maxLen], fun x hx => by cases hx⟩, by simpa using bulk_pos _, fun _ => ⟨by simp, fun x hx => by cases hx⟩⟩
    · have hlm : len ≤ m := by rw [hmm]; split <;> omega
      have hel : ∀ i : Nat, ∃ y : α, i < len → ∃ cs', w.cells? 0 (a.add (i * P.cellsOf e)) (P.cellsOf e) = some cs' ∧ d.K w y cs' ∧ good y ∧ wt y ≤ Rows.uptoBulk (D i) ∧ ((∀ n ∈ (D i).weights P e, n ≤ reachBytes) → sz y) := by
        intro i
        by_cases hi : i < len
        · obtain ⟨cs', h1, h2⟩ := hx i (by omega)
          obtain ⟨y, hk, hg, hw, hz⟩ := ho.run enc w spare held n cs' _ h2
          exact ⟨y, fun _ => ⟨cs', h1, hk, hg, hw, hz⟩⟩
        · exact ⟨default, fun h => absurd h hi⟩
      obtain ⟨f, hf⟩ := Classical.axiomOfChoice hel
      have hget : ∀ (j : Nat) (p : α), ((List.range len).map f)[j]? = some p → j < len ∧ f j = p := by
        intro j p hj
        have hj' := (List.getElem?_eq_some_iff.1 hj).1
        rw [List.length_map, List.length_range] at hj'
        rw [List.getElem?_map, List.getElem?_range hj'] at hj
        exact ⟨hj', by simpa using hj⟩
      have hlen : ((List.range len).map f).length = len := by rw [List.length_map, List.length_range]
      have hmax : maxLen = 9223372036854775807 := rfl
      refine ⟨(List.range len).map f, ⟨some a, cap, by rw [hlen], by rw [hlen]; exact hl, rfl, by rw [hlen]; omega, fun _ => ⟨a, rfl, fun j p hj => ?_⟩⟩, ⟨by rw [hlen]; omega, fun x hx' => ?_⟩, ?_, fun hn => ⟨?_, fun x hx' => ?_⟩⟩
      · obtain ⟨hj', rfl⟩ := hget j p hj
        obtain ⟨cs', h1, hk, _⟩ := hf j hj'
        obtain ⟨hcl, hcc⟩ := cells_list h1
        refine ⟨cs', by rw [hcl, hsz], hk, fun i u hu => ?_⟩
        have := hcc i u hu
        rwa [Addr.add_add, hsz] at this
      · obtain ⟨i, hi, rfl⟩ := List.mem_map.1 hx'
        obtain ⟨_, _, _, hg, _⟩ := hf i (List.mem_range.1 hi)
        exact hg
      · simp only [Rows.uptoBulk]
        have := bulkAll_map wt ((List.range len).map D) ((List.range len).map f) (by simp) (fun i x' d' h1 h2 => by
          obtain ⟨hi, rfl⟩ := hget i x' h1
          have hd : D i = d' := by
            rw [List.getElem?_map, List.getElem?_range hi] at h2
            simpa using h2
          subst hd
          obtain ⟨_, _, _, _, hw, _⟩ := hf i hi
          exact hw)
        omega
      · simp only [DataW.weights, ht] at hn
        have h1 := hn _ (List.mem_cons_self ..)
        rw [List.length_map, List.length_range, hby] at h1
        rw [hlen]
        exact Nat.le_trans (Nat.mul_le_mul_right b (Nat.le_add_right _ _)) h1
      · simp only [DataW.weights, ht] at hn
        obtain ⟨i, hi, rfl⟩ := List.mem_map.1 hx'
        obtain ⟨_, _, _, _, _, hz⟩ := hf i (List.mem_range.1 hi)
        exact hz fun n hn' => hn n (List.mem_cons_of_mem _ (List.mem_append_left _ (mem_weightsAll (List.mem_map.2 ⟨i, hi, rfl⟩) hn')))⟩
theorem opensF_one {α : Type} {d : Kd α} {good : α → Prop} {wt : α → Nat} {sz : α → Prop} {f : Field} (hsz : P.cellsOf f.type = d.sz) (ho : Opens P f.type d good wt sz) : OpensF P [f] f.offset d good wt sz :=
  ⟨fun enc w spare held fuel cs xs h => by
    simp only [List.mapM_cons, List.mapM_nil] at h
    obtain ⟨x, hx, h2⟩ := Option.bind_eq_some_iff.1 h
    obtain ⟨ys, hys, h3⟩ := Option.bind_eq_some_iff.1 h2
    obtain rfl : [] = ys := by simpa using hys
    obtain rfl : [x] = xs := by simpa using h3
    obtain ⟨y, hk, hg, hw, hz⟩ := ho.run enc w spare held fuel _ x hx
    refine ⟨y, by rw [← hsz]; exact hk, hg, ?_, fun hn => hz fun n h' => hn n ?_⟩
    · simp only [List.map_cons, List.map_nil, Rows.uptoBulkAll]
      omega
    · simp only [List.map_cons, List.map_nil, DataW.weightsEach, List.append_nil]
      exact h'⟩
theorem opensF_cons {α β : Type} {d : Kd α} {d2 : Kd β} {good : α → Prop} {good2 : β → Prop} {wt : α → Nat} {wt2 : β → Nat} {sz : α → Prop} {sz2 : β → Prop} {f : Field} {fs : List Field} {off2 : Nat} (hsz : P.cellsOf f.type = d.sz) (hoff : f.offset + d.sz = off2)
    (ho : Opens P f.type d good wt sz) (h2 : OpensF P fs off2 d2 good2 wt2 sz2) : OpensF P (f :: fs) f.offset (Kd.pair d d2) (fun x => good x.1 ∧ good2 x.2) (fun x => wt x.1 + wt2 x.2) (fun x => sz x.1 ∧ sz2 x.2) :=
  ⟨fun enc w spare held fuel cs xs h => by
    simp only [List.mapM_cons] at h
    obtain ⟨x, hx, h3⟩ := Option.bind_eq_some_iff.1 h
    obtain ⟨ys, hys, h4⟩ := Option.bind_eq_some_iff.1 h3
    obtain rfl : x :: ys = xs := by simpa using h4
    obtain ⟨y, hk, hg, hw, hz⟩ := ho.run enc w spare held fuel _ x hx
    obtain ⟨z, hk2, hg2, hw2, hz2⟩ := h2.run enc w spare held fuel cs ys hys
    refine ⟨(y, z), ⟨(cs.drop f.offset).take d.sz, (cs.drop off2).take d2.sz, ?_, by rw [← hsz]; exact hk, hk2⟩, ⟨hg, hg2⟩, ?_, fun hn => ?_⟩
    · show (cs.drop f.offset).take (d.sz + d2.sz) = _
      rw [List.take_add, List.drop_drop, hoff]
    · simp only [List.map_cons, Rows.uptoBulkAll]
      omega
    · simp only [List.map_cons, DataW.weightsEach] at hn
      exact ⟨hz fun n h' => hn n (List.mem_append_left _ h'), hz2 fun n h' => hn n (List.mem_append_right _ h')⟩⟩
theorem opens_struct {α β : Type} {d : Kd α} {good : α → Prop} {wt : α → Nat} {sz : α → Prop} {fs : Array Field} (f : β → α) (g : α → β) (hfg : ∀ a, f (g a) = a) (ht : P.underlying t = some (.struct fs)) (hsz : P.cellsOf t = d.sz) (ho : OpensF P fs.toList 0 d good wt sz) :
    Opens P t (Kd.iso d f) (fun x => good (f x)) (fun x => wt (f x) + 1) (fun x => sz (f x)) :=
  ⟨fun enc w spare held fuel cs x h => by
    cases fuel with
    | zero => simp [DataW.trod] at h
    | succ n =>
      unfold DataW.trod at h
      rw [ht] at h
      have h' : (if cs.length = P.cellsOf t then (fs.toList.mapM fun f => DataW.trod enc P w 0 spare held n f.type ((cs.drop f.offset).take (P.cellsOf f.type))).map fun xs => (DataW.agg (xs.map (·.1)), xs.flatMap (·.2)) else none) = some x := by
        cases cs with
        | nil => exact h
        | cons c cs => cases cs <;> cases c <;> exact h
      clear h
      split at h'
      · rename_i hl
        obtain ⟨xs, hxs, rfl⟩ := Option.map_eq_some_iff.1 h'
        obtain ⟨y, hk, hg, hw, hz⟩ := ho.run enc w spare held n cs xs hxs
        refine ⟨g y, ?_, by show good (f (g y)); rw [hfg]; exact hg, ?_, fun hn => ?_⟩
        · show d.K w (f (g y)) cs
          rw [hfg]
          rw [List.drop_zero, List.take_of_length_le (by omega)] at hk
          exact hk
        · show wt (f (g y)) + 1 ≤ Rows.uptoBulk (DataW.agg (xs.map (·.1)))
          rw [hfg]
          simp only [Rows.uptoBulk]
          omega
        · show sz (f (g y))
          rw [hfg]
          simp only [DataW.weights, ht] at hn
          exact hz hn
      · cases h'⟩
end
end
structure S24 where
  f0 : ByteArray
  f1 : ByteArray
  f2 : (List S46)
def z24 : S24 := ⟨(⟨#[]⟩ : ByteArray), (⟨#[]⟩ : ByteArray), ([] : List S46)⟩
def k24 : Kd S24 := Kd.iso (Kd.pair Kd.string (Kd.pair Kd.string (Kd.slice 46 k46))) (fun x : S24 => (x.f0, x.f1, x.f2))
theorem k24_open {w : World} {x : S24} {cs : List Value} (h : k24.K w x cs) : ∃ A2 c2, cs = [.string x.f0, .string x.f1, .slice A2 x.f2.length c2] ∧ x.f2.length ≤ c2 ∧ k46.C w A2 x.f2.length x.f2 := by
  obtain ⟨_, _, rfl, rfl, ⟨_, _, rfl, rfl, ⟨A2, c2, rfl, l2, g2⟩⟩⟩ := h
  exact ⟨A2, c2, rfl, l2, g2⟩
instance : Inhabited S49 := ⟨z49⟩
def good49 (x : S49) : Prop := (x.f0).size ≤ maxLen ∧ (Lit.int .i64 (x.f1)).wf = true
def wt49 (x : S49) : Nat := (((x.f0).size + 1) + (1)) + 1
def sz49 (x : S49) : Prop := ((x.f0).size ≤ reachBytes) ∧ True
theorem opens49 : Opens Tryd.prog 49 k49 good49 wt49 sz49 :=
  opens_struct (fun x : S49 => (x.f0, x.f1)) (fun p => ⟨p.1, p.2⟩) (fun _ => rfl) Tryd.underlying49 (by kernel_rfl) (opensF_cons (by kernel_rfl) rfl (opens_string Tryd.underlying9) (opensF_one (by kernel_rfl) (opens_int Tryd.underlying3)))
instance : Inhabited S46 := ⟨z46⟩
def good46 (x : S46) : Prop := (x.f0).size ≤ maxLen ∧ ((x.f1).length ≤ maxLen ∧ ∀ y ∈ x.f1, good49 (y))
def wt46 (x : S46) : Nat := (((x.f0).size + 1) + ((((x.f1).map (fun x => wt49 (x))).sum + 1))) + 1
def sz46 (x : S46) : Prop := ((x.f0).size ≤ reachBytes) ∧ ((x.f1).length * 24 ≤ reachBytes ∧ ∀ y ∈ x.f1, sz49 (y))
theorem opens46 : Opens Tryd.prog 46 k46 good46 wt46 sz46 :=
  opens_struct (fun x : S46 => (x.f0, x.f1)) (fun p => ⟨p.1, p.2⟩) (fun _ => rfl) Tryd.underlying46 (by kernel_rfl) (opensF_cons (by kernel_rfl) rfl (opens_string Tryd.underlying9) (opensF_one (by kernel_rfl) (opens_slice (b := 24) (by kernel_rfl) Tryd.underlying44 (by kernel_rfl) opens49)))
instance : Inhabited S24 := ⟨z24⟩
def good24 (x : S24) : Prop := (x.f0).size ≤ maxLen ∧ (x.f1).size ≤ maxLen ∧ ((x.f2).length ≤ maxLen ∧ ∀ y ∈ x.f2, good46 (y))
def wt24 (x : S24) : Nat := (((x.f0).size + 1) + (((x.f1).size + 1) + ((((x.f2).map (fun x => wt46 (x))).sum + 1)))) + 1
def sz24 (x : S24) : Prop := ((x.f0).size ≤ reachBytes) ∧ ((x.f1).size ≤ reachBytes) ∧ ((x.f2).length * 40 ≤ reachBytes ∧ ∀ y ∈ x.f2, sz46 (y))
theorem opens24 : Opens Tryd.prog 24 k24 good24 wt24 sz24 :=
  opens_struct (fun x : S24 => (x.f0, x.f1, x.f2)) (fun p => ⟨p.1, p.2.1, p.2.2⟩) (fun _ => rfl) Tryd.underlying24 (by kernel_rfl) (opensF_cons (by kernel_rfl) rfl (opens_string Tryd.underlying9) (opensF_cons (by kernel_rfl) rfl (opens_string Tryd.underlying9) (opensF_one (by kernel_rfl) (opens_slice (b := 40) (by kernel_rfl) Tryd.underlying22 (by kernel_rfl) opens46))))
def colloquylaw20_SumParts.PureU : Prop := ∀ (x0 : S24) (x1 : S24), good24 (x0) → good24 (x1) → sz24 (x0) → sz24 (x1) → ∃ _ : Nat, colloquylaw20_SumParts.f (x0.f0) (x0.f1) (x0.f2) (x1.f0) (x1.f1) (x1.f2) = some true
end Go.Proofs.YtljmbgilcngfgaaDoor.PA
section
namespace Go.Proofs.YtljmbgilcngfgaaDoor.Pure
open Go.RowKit Go.Proofs.YtljmbgilcngfgaaDoor.PA
set_option linter.unusedVariables false in
theorem SumParts : colloquylaw20_SumParts.PureU := fun x0 x1 _ _ hs hs1 => ⟨0, if_pos ⟨⟨by have h_ := hs.2.2.1; unfold reachBytes at h_; omega, fun p hp => by have h_ := (hs.2.2.2 p hp).2.1; unfold reachBytes at h_; omega⟩, ⟨by have h_ := hs1.2.2.1; unfold reachBytes at h_; omega, fun p hp => by have h_ := (hs1.2.2.2 p hp).2.1; unfold reachBytes at h_; omega⟩⟩⟩
end Go.Proofs.YtljmbgilcngfgaaDoor.Pure
end
section
namespace Go.Proofs.YtljmbgilcngfgaaDoor.sumParts
open Go.ChangeShapes Go.WideShapes Go.ChangeAt Go.RowKit
open Go.ChangeMaps (open_string shut_string)
open Go.RowKit Go.Proofs.YtljmbgilcngfgaaDoorW.PrintWords Go.Proofs.YtljmbgilcngfgaaDoorW.PrintLast Go.Proofs.YtljmbgilcngfgaaDoorW.PrintMore Go.Proofs.YtljmbgilcngfgaaDoor.PA
set_option linter.unusedVariables false
set_option linter.unusedSimpArgs false
theorem own : ownKnob Tryd.prog.godebug = none := by kernel_rfl
theorem laidOut : laidOutB Tryd.prog = true := by kernel_rfl
set_option maxRecDepth 100000 in
theorem contract (H : Type) (enc : TypeId × Value → H) (W : World) (base : Nat) (args : Array Value) (ds gs : List (DataW H)) (before : List MemPlace)
    (hval0 : ∀ (j : Nat) t v, Tryd.f8.params[j]? = some t → args[j]? = some v → Value.okWide Tryd.prog W .any base t v)
    (hW : DataW.Whole enc Tryd.prog Tryd.f8.params.toList Rows.sumPartsSpec.vars false W args.toList ds gs before)
    (hsz0 : (DataW.weightsEach Tryd.prog (Tryd.f8.params.toList ++ Rows.sumPartsSpec.plain.varTypes Tryd.prog) (ds ++ gs)).all (· ≤ reachBytes) = true) (hLd : PA.LaidW W) :
    Calls Tryd.prog 8 args W fun e W' => ∃ v, e = .returned v ∧ Rows.sumPartsSpec.post enc Tryd.prog Tryd.f8 false true false false W args v W' := by
  have hsz : (DataW.weightsEach Tryd.prog (Tryd.f8.params.toList ++ Rows.sumPartsSpec.plain.varTypes Tryd.prog) (ds ++ gs)).all (· ≤ reachBytes) = true := hsz0
  have hval : ∀ (j : Nat) t v, Tryd.f8.params[j]? = some t → args[j]? = some v → Value.okWide Tryd.prog W .any base t v := hval0
  have hW' := hW
  obtain ⟨p, q, hA0, hV, rfl, hfz, hnd⟩ := hW
  have hA : DataW.TrodAll enc Tryd.prog W 0 (fun _ => true) true Tryd.f8.params.toList args.toList ds p := hA0
  rw [Tryd.params8] at hA hval hsz
  obtain ⟨v0, vs0, d0, ds0, p0, q0, hargs, rfl, rfl, h0, r0⟩ := trodAll_cons hA
  obtain ⟨v1, vs1, d1, ds1, p1, q1, rfl, rfl, rfl, h1, r1⟩ := trodAll_cons r0
  obtain ⟨rfl, rfl, rfl⟩ := trodAll_nil r1
  obtain rfl : args = #[v0, v1] := by cases args; simp_all
  obtain ⟨rfl, rfl⟩ := trodVars_none hV
  have k0 := h0
  have lt0 : ∀ x ∈ p0, x.block < W.heap.size := by obtain ⟨m, hm⟩ := k0; exact DataW.trod_lt m _ _ _ hm
  obtain ⟨fuel0, hf0⟩ := h0
  obtain ⟨x0, hK0, g0, z0, s00⟩ := opens24.run enc W _ _ fuel0 _ _ hf0
  have s0 := s00 (fun n hn => by have := List.all_eq_true.1 hsz n (DataW.weights_mem_each (j := 0) (t := 24) rfl rfl n hn); simpa using this)
  obtain ⟨cs0, rfl, _⟩ := okWide_struct Tryd.underlying24 (hval 0 24 v0 rfl rfl)
  obtain ⟨A0_2, c0_2, hcs0, hc0_2, hr0_2⟩ := k24_open hK0
  obtain rfl : cs0 = #[.string x0.f0, .string x0.f1, .slice A0_2 x0.f2.length c0_2] := by
    have hcs' : cs0.toList = [.string x0.f0, .string x0.f1, .slice A0_2 x0.f2.length c0_2] := hcs0
    cases cs0; simp_all
  have k1 := h1
  have lt1 : ∀ x ∈ p1, x.block < W.heap.size := by obtain ⟨m, hm⟩ := k1; exact DataW.trod_lt m _ _ _ hm
  obtain ⟨fuel1, hf1⟩ := h1
  obtain ⟨x1, hK1, g1, z1, s10⟩ := opens24.run enc W _ _ fuel1 _ _ hf1
  have s1 := s10 (fun n hn => by have := List.all_eq_true.1 hsz n (DataW.weights_mem_each (j := 1) (t := 24) rfl rfl n hn); simpa using this)
  obtain ⟨cs1, rfl, _⟩ := okWide_struct Tryd.underlying24 (hval 1 24 v1 rfl rfl)
  obtain ⟨A1_2, c1_2, hcs1, hc1_2, hr1_2⟩ := k24_open hK1
  obtain rfl : cs1 = #[.string x1.f0, .string x1.f1, .slice A1_2 x1.f2.length c1_2] := by
    have hcs' : cs1.toList = [.string x1.f0, .string x1.f1, .slice A1_2 x1.f2.length c1_2] := hcs1
    cases cs1; simp_all
  obtain ⟨k, h⟩ := Pure.SumParts x0 x1 g0 g1 s0 s1
  refine (PA.colloquylaw20_SumParts.calls (a0_0 := x0.f0) (a0_1 := x0.f1) (A0_2 := A0_2) (c0_2 := c0_2) (l0_2 := x0.f2) (a1_0 := x1.f0) (a1_1 := x1.f1) (A1_2 := A1_2) (c1_2 := c1_2) (l1_2 := x1.f2) (r := true) (w := W) (hr0_2 := hr0_2) (hc0_2 := hc0_2) (hr1_2 := hr1_2) (hc1_2 := hc1_2) (hL := hLd) (h := h)).mono fun e W' ⟨he, hb⟩ => ?_
  have bel : Below W.heap.size W W' := by first | exact hb | exact Drawn0.below hb
  subst he
  exact ⟨_, rfl, _, _, _, [], _, [], hW', trodAll_mk1 (shut_bool Tryd.underlying4 _), (trodAll_cons_mk (Below.trod laidOut (by kernel_rfl) (of_decide_eq_true (by kernel_rfl)) k0 bel lt0) (trodAll_cons_mk (Below.trod laidOut (by kernel_rfl) (of_decide_eq_true (by kernel_rfl)) k1 bel lt1) trodAll_mk0)), rfl, bel.frame _, fun h => by cases h⟩
set_option maxRecDepth 100000 in
theorem lifted (os : Os) (started : os.Started) (H : Type) (enc : TypeId × Value → H) :
    ReturnsInHanded {} Tryd.checked os 8 .any (fun w args => (Rows.sumPartsSpec.pre enc Tryd.prog Tryd.f8 Rows.sumPartsRow.domain false w args ∧ laidMetH Tryd.prog Rows.sumPartsRow.laid w) ∧ sizedMet enc Tryd.prog Tryd.f8 (OpenSpec.ofChange Rows.sumPartsSpec) false w args)
      (Rows.sumPartsSpec.post enc Tryd.prog Tryd.f8 false true false false) := by
  refine PA.handed_and_shaped (C := Tryd.checked) (X := fun w _ => laidMetH Tryd.prog Rows.sumPartsRow.laid w) (fun _ _ _ hh h => h.of_heap hh) own started (by kernel_rfl) Tryd.func8
    (ChangeSpec.witness_shaped (enc := enc) (C := Tryd.checked) (os := os) (X := fun w _ => laidMetH Tryd.prog Rows.sumPartsRow.laid w) false (World.laidAll Tryd.prog os Rows.sumPartsRow.laid) #[.agg #[.string ByteArray.empty, .string ByteArray.empty, .slice none 0 0], .agg #[.string ByteArray.empty, .string ByteArray.empty, .slice none 0 0]] 8 (World.laidAll_os _ _ _)
      (World.shaped_of_ZipB (by kernel_rfl) (by kernel_rfl)) (by kernel_rfl) (by kernel_rfl) (by kernel_rfl)
      (by rw [MakeChecks.laidMetH_plain _ _ _ (by kernel_rfl)]; exact laidMet_laidAll _ (by kernel_rfl) (by kernel_rfl))) ?_
  intro W base args ds gs before hval hW hsz hx hsh
  exact contract H enc W base args ds gs before hval hW hsz (PA.laid_W hsh (fun w => MakeChecks.laidMetH_plain _ _ w (by kernel_rfl)) (by have e_ : (Lib.tabData .u64 Lib.pow10Tab : DataW Unit) = Rows.laid_internal_strconv_uint64pow10 := (by kernel_rfl); rw [e_]; simp [Rows.sumPartsRow]) hx)
theorem over : Rows.sumPartsRow.holds Tryd.pinned (OpenSpec.ofChange Rows.sumPartsSpec) :=
  OpenClaim.holds_of_wide 8 Tryd.f8 rfl rfl rfl rfl rfl rfl rfl ⟨rfl, rfl, rfl, rfl, rfl⟩ rfl rfl rfl rfl rfl (by kernel_rfl) Tryd.func8 (by kernel_rfl)
    (of_decide_eq_true (by kernel_rfl)) (by unfold Func.isWrapper; first | (rw [if_pos (by decide +kernel)]; kernel_rfl) | (rw [if_neg (by decide +kernel)]; exact ⟨rfl, rfl⟩))
    (fun os started H enc _ => lifted os started H enc)
theorem proved : Rows.SumPartsSaid := over
theorem card_holds : Rows.SumPartsCardSaid :=
  Claim7.holds_tied_plain_at .later [] [.data, .data, .data, .data, .pinned] true (true, "9ec31119e96e43430481a0a0f6c2bb068c6456d675388dc92fd42b455ffcde30") false
    proved (fun _ h => by cases h) (by kernel_rfl) (fun _ h => by cases h) sumParts_row_tie rfl ⟨rfl, rfl⟩ (by kernel_rfl) rfl
    (fun f fn hf hfn => by
      obtain rfl : f = 8 := Option.some.inj ((show Tryd.prog.funcNamed "colloquy/colloquylaw20.SumParts" = some 8 by kernel_rfl).symm.trans hf) |>.symm
      obtain rfl : fn = Tryd.f8 := (Option.some.inj (Tryd.func8.symm.trans hfn)).symm
      exact ⟨by kernel_rfl, fun j t ht => by
        have hall : (Tryd.f8.params.toList.all fun u => !Tryd.prog.wantsStandIn u) = true := by kernel_rfl
        have hm : t ∈ Tryd.f8.params.toList := Array.mem_toList_iff.2 (Array.mem_of_getElem? ht)
        exact (show Tryd.prog.wantsStandIn t = false by simpa using List.all_eq_true.1 hall t hm)⟩)
    (by kernel_rfl)
end Go.Proofs.YtljmbgilcngfgaaDoor.sumParts
namespace Go.Proofs.YtljmbgilcngfgaaDoor
theorem sumPartsCard_holds : Rows.SumPartsCardSaid := sumParts.card_holds
end Go.Proofs.YtljmbgilcngfgaaDoor
end
