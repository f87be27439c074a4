/- The row of the law SumParses: for every input the call returns true and leaves its arguments as they were. Printed by a program of this session. -/
/- What this claim uses of this session's own texts, put together by a program: GRefN GBody HSumT HLat GRefP GText GAlive GParses HOpen StmtSumParses PureSumParses LawSumParses. -/
import Derived.Test.YtljmbgilcngfgaaDoorKSumParses3
import Derived.Test.YtljmbgilcngfgaaDoorProg
import Derived.Test.YtljmbgilcngfgaaDoorRows
import Derived.Test.YtljmbgilcngfgaaDoorCards
import Derived.Test.YtljmbgilcngfgaaDoorTie
namespace Go.Proofs.YtljmbgilcngfgaaDoor.PA
open Go.RowKit Go.Proofs.YtljmbgilcngfgaaDoorW.PrintWords Go.Proofs.YtljmbgilcngfgaaDoorW.PrintLast Go.Proofs.YtljmbgilcngfgaaDoorW.PrintMore
set_option linter.unusedVariables false
set_option linter.unusedSimpArgs false
set_option maxRecDepth 100000
set_option maxHeartbeats 8000000
namespace GRefN_
theorem beh_calls (l wd : ByteArray) (w : World) (hl : l.size ≤ 1000000000) :
    Calls Tryd.prog 54 #[.string l, .string wd] w fun e w' => e = .returned (.tuple #[.string (behB l wd), .bool (hpB l wd)]) ∧ Below w.heap.size w w' := by
 refine gw_start (N := 23) (vs := [.string l, .string wd]) Tryd.func54 rfl rfl (by simp) fun a HF HO => ?_
 replace HO : Own w w [] := HO
 refine gR fun K1 hK1 => ?_
 refine Vc HF ?_
 intro _ H3; clear HF
 refine Vc H3 fun _ H5 => ?_
 refine gE hK1 ?_
 refine gw_seq fun K6 hK6 => ?_
 refine gR fun K7 hK7 => ?_
 refine Vm H5 fun _ H9 => ?_
 refine V H9 (op_lens Tryd.underlying9 rfl (H9.ev rfl)) fun _ H11 => ?_
 refine Vm H11 fun _ H13 => ?_
 refine V H13 (op_lens Tryd.underlying9 rfl (H13.ev rfl)) fun _ H15 => ?_
 refine V H15 (op_lss rfl (H15.ev rfl) (H15.ev rfl)) fun _ H17 => ?_
 refine Vm H17 fun _ H19 => ?_
 clear H3 H5 H9 H11 H13 H15 H17
 rcases Bool.eq_false_or_eq_true (decide ((l.size : Int) < (wd.size : Int))) with hb20 | hb20
 ·
  have H21 := H19.subst_ (d := 11) (b := true) rfl hb20
  clear H19
  (try simp only [decide_eq_true_eq] at hb20)
  refine Vo H21 (wn H21 rfl rfl rfl rfl) fun _ H23 => ?_
  refine Vo H23 (wn H23 rfl rfl rfl rfl) fun _ H25 => ?_
  refine Vo H25 (wn H25 rfl rfl rfl rfl) fun _ H27 => ?_
  refine Vo H27 (wn H27 rfl rfl rfl rfl) fun _ H29 => ?_
  refine Vo H29 (wn H29 rfl rfl rfl rfl) fun _ H31 => ?_
  refine Vo H31 (wn H31 rfl rfl rfl rfl) fun _ H33 => ?_
  refine V H33 (op_pick_t rfl (H33.ev rfl) (ev_c _ _)) fun _ H35 => ?_
  refine gE hK7 ?_
  clear H21 H23 H25 H27 H29 H31 H33
  refine gw_cond H35 rfl (fun hb36 => ?_) (fun hb36 => ?_)
  rotate_left
  ·
   cases hb36
  refine gR fun K37 hK37 => ?_
  refine Vc H35 fun _ H39 => ?_
  refine Vc H39 fun _ H41 => ?_
  refine gE hK37 ?_
  refine wp_ret ?_
  clear H35 H39
  refine gw_thr ?_
  refine gw_ret2 H41 rfl rfl rfl ?_
  first | exact ⟨by rw [behB, hp_short (by omega)]; rfl, HO.below⟩ | (have hb_ : ¬ (l.extract 0 wd.size).toList = wd.toList := (by simp_all); exact ⟨by rw [behB, hp_cut_no hb_]; rfl, HO.below⟩) | (have hb_ : (l.extract 0 wd.size).toList = wd.toList := (by simp_all); exact ⟨by rw [behB, hp_cut hb_, if_pos rfl, ← tp_cut (hp_cut hb_)]; rfl, HO.below⟩)
 have H42 := H19.subst_ (d := 11) (b := false) rfl hb20
 clear H19
 (try simp only [decide_eq_false_iff_not, Int.not_lt] at hb20)
 refine V2 H42 (want_yes H42 rfl rfl rfl rfl) (op_move rfl (H42.ev rfl)) fun _ H44 => ?_
 refine V2 H44 (want_yes H44 rfl rfl rfl rfl) (op_move rfl (H44.ev rfl)) fun _ H46 => ?_
 refine V2 H46 (want_yes H46 rfl rfl rfl rfl) (op_lens Tryd.underlying9 rfl (H46.ev rfl)) fun _ H48 => ?_
 refine V2 H48 (want_yes H48 rfl rfl rfl rfl) (op_scut Tryd.underlying9 rfl (H48.ev rfl) rfl (some_ev (H48.ev rfl)) (sb_hi ⟨by omega, by omega⟩)) fun _ H50 => ?_
 refine V2 H50 (want_yes H50 rfl rfl rfl rfl) (op_move rfl (H50.ev rfl)) fun _ H52 => ?_
 refine V2 H52 (want_yes H52 rfl rfl rfl rfl) (op_nes rfl (H52.ev rfl) (H52.ev rfl)) fun _ H54 => ?_
 refine V H54 (op_pick_f rfl (H54.ev rfl) (H54.ev rfl)) fun _ H56 => ?_
 refine gE hK7 ?_
 clear H42 H44 H46 H48 H50 H52 H54
 refine gw_cond H56 rfl (fun hb57 => ?_) (fun hb57 => ?_)
 ·
  have H58 := H56.subst_ (d := 18) (b := true) rfl hb57
  clear H56
  (try simp only [Bool.and_eq_true, Bool.and_eq_false_iff, Bool.not_and, Bool.or_eq_true, Bool.or_eq_false_iff, Bool.not_or, Bool.not_not, Bool.not_eq_true', Bool.not_eq_false', Bool.not_eq_true, Bool.not_eq_false, beq_iff_eq, beq_eq_false_iff_ne, ne_eq] at hb57)
  refine gR fun K59 hK59 => ?_
  refine Vc H58 fun _ H61 => ?_
  refine Vc H61 fun _ H63 => ?_
  refine gE hK59 ?_
  refine wp_ret ?_
  clear H58 H61
  refine gw_thr ?_
  refine gw_ret2 H63 rfl rfl rfl ?_
  first | exact ⟨by rw [behB, hp_short (by omega)]; rfl, HO.below⟩ | (have hb_ : ¬ (l.extract 0 wd.size).toList = wd.toList := (by simp_all); exact ⟨by rw [behB, hp_cut_no hb_]; rfl, HO.below⟩) | (have hb_ : (l.extract 0 wd.size).toList = wd.toList := (by simp_all); exact ⟨by rw [behB, hp_cut hb_, if_pos rfl, ← tp_cut (hp_cut hb_)]; rfl, HO.below⟩)
 have H64 := H56.subst_ (d := 18) (b := false) rfl hb57
 clear H56
 (try simp only [Bool.and_eq_true, Bool.and_eq_false_iff, Bool.not_and, Bool.or_eq_true, Bool.or_eq_false_iff, Bool.not_or, Bool.not_not, Bool.not_eq_true', Bool.not_eq_false', Bool.not_eq_true, Bool.not_eq_false, beq_iff_eq, beq_eq_false_iff_ne, ne_eq] at hb57)
 refine gS hK6 ?_
 refine gR fun K65 hK65 => ?_
 refine Vm H64 fun _ H67 => ?_
 refine Vm H67 fun _ H69 => ?_
 refine V H69 (op_lens Tryd.underlying9 rfl (H69.ev rfl)) fun _ H71 => ?_
 refine V H71 (op_scut Tryd.underlying9 rfl (H71.ev rfl) (some_ev (H71.ev rfl)) rfl (sb_lo ⟨by omega, by omega⟩)) fun _ H73 => ?_
 refine Va H73 fun _ H75 => ?_
 refine Vc H75 fun _ H77 => ?_
 refine gE hK65 ?_
 refine wp_ret ?_
 clear H64 H67 H69 H71 H73 H75
 refine gw_ret2 H77 rfl rfl rfl ?_
 first | exact ⟨by rw [behB, hp_short (by omega)]; rfl, HO.below⟩ | (have hb_ : ¬ (l.extract 0 wd.size).toList = wd.toList := (by simp_all); exact ⟨by rw [behB, hp_cut_no hb_]; rfl, HO.below⟩) | (have hb_ : (l.extract 0 wd.size).toList = wd.toList := (by simp_all); exact ⟨by rw [behB, hp_cut hb_, if_pos rfl, ← tp_cut (hp_cut hb_)]; rfl, HO.below⟩)
theorem rnm_calls (l wd : ByteArray) (w : World) (hl : l.size ≤ 1000000000) (hw : wd.size ≤ 1000) :
    Calls Tryd.prog 36 #[.string l, .string wd] w fun e w' => e = .returned (.tuple #[.string (rnm l wd).1, .bool (rnm l wd).2]) ∧ Below w.heap.size w w' := by
 refine gw_start (N := 20) (vs := [.string l, .string wd]) Tryd.func36 rfl rfl (by simp) fun a HF HO => ?_
 replace HO : Own w w [] := HO
 refine gR fun K1 hK1 => ?_
 refine Vc HF ?_
 intro _ H3; clear HF
 refine Vc H3 fun _ H5 => ?_
 refine gE hK1 ?_
 refine gR fun K6 hK6 => ?_
 refine Vm H5 fun _ H8 => ?_
 refine Vm H8 fun _ H10 => ?_
 clear H3 H5 H8
 refine Wk H10 Tryd.func54 rfl (ar_cons (H10.ev rfl) (ar_cons (H10.ev rfl) ar_nil)) (beh_calls l wd _ (by omega)) ?_
 rintro e11 w12 ⟨rfl, hb13⟩
 refine ⟨_, rfl, fun _ H15 => ?_⟩
 have O16 := HO.after hb13
 clear H10 HO hb13
 refine Vm H15 fun _ H19 => ?_
 refine Vx H19 fun _ H21 => ?_
 refine Vx H21 fun _ H23 => ?_
 refine Va H23 fun _ H25 => ?_
 refine Va H25 fun _ H27 => ?_
 refine gE hK6 ?_
 refine gw_seq fun K28 hK28 => ?_
 refine gR fun K29 hK29 => ?_
 refine Vm H27 fun _ H31 => ?_
 refine V H31 (op_not rfl (H31.ev rfl)) fun _ H33 => ?_
 refine gE hK29 ?_
 clear H15 H19 H21 H23 H25 H27 H31
 refine gw_cond H33 rfl (fun hb34 => ?_) (fun hb34 => ?_)
 ·
  have H35 := H33.subst_ (d := 15) (b := true) rfl hb34
  clear H33
  (try simp only [Bool.and_eq_true, Bool.and_eq_false_iff, Bool.not_and, Bool.or_eq_true, Bool.or_eq_false_iff, Bool.not_or, Bool.not_not, Bool.not_eq_true', Bool.not_eq_false', Bool.not_eq_true, Bool.not_eq_false] at hb34)
  have hno : hpB l wd = false := by have hb_ := hb34; revert hb_; cases hpB l wd <;> simp
  refine gR fun K36 hK36 => ?_
  refine Vc H35 fun _ H38 => ?_
  refine Vc H38 fun _ H40 => ?_
  refine gE hK36 ?_
  refine wp_ret ?_
  clear H35 H38
  refine gw_thr ?_
  refine gw_ret2 H40 rfl rfl rfl ?_
  first | exact ⟨by unfold rnm; rw [if_neg (by rw [hno]; decide)] <;> rfl, O16.below⟩ | exact ⟨by unfold rnm behB; simp only [if_pos hyes]; rfl, O16.below⟩
 have H41 := H33.subst_ (d := 15) (b := false) rfl hb34
 clear H33
 (try simp only [Bool.and_eq_true, Bool.and_eq_false_iff, Bool.not_and, Bool.or_eq_true, Bool.or_eq_false_iff, Bool.not_or, Bool.not_not, Bool.not_eq_true', Bool.not_eq_false', Bool.not_eq_true, Bool.not_eq_false] at hb34)
 have hyes : hpB l wd = true := by have hb_ := hb34; revert hb_; cases hpB l wd <;> simp
 refine gS hK28 ?_
 refine gR fun K42 hK42 => ?_
 refine Vm H41 fun _ H44 => ?_
 clear H41
 refine Wk H44 Tryd.func55 rfl (ar_cons (H44.ev rfl) ar_nil) (rrd_calls (behB l wd) (by have h_ := tp_size l wd; unfold behB; split <;> first | omega | exact Nat.zero_le _) _) ?_
 rintro e45 w46 ⟨rfl, hb47⟩
 refine ⟨_, rfl, fun _ H49 => ?_⟩
 have O50 := O16.after hb47
 clear H44 O16 hb47
 refine Vx H49 fun _ H53 => ?_
 refine Vx H53 fun _ H55 => ?_
 refine Va H55 fun _ H57 => ?_
 refine Va H57 fun _ H59 => ?_
 refine gE hK42 ?_
 refine wp_ret ?_
 clear H49 H53 H55 H57
 refine gw_ret2 H59 rfl rfl rfl ?_
 first | exact ⟨by unfold rnm; rw [if_neg (by rw [hno]; decide)] <;> rfl, O50.below⟩ | exact ⟨by unfold rnm behB; simp only [if_pos hyes]; rfl, O50.below⟩
theorem res_calls (l : ByteArray) (w : World) (hl : l.size ≤ 1000000000) :
    Calls Tryd.prog 56 #[.string l] w fun e w' => e = .returned (.tuple #[.agg #[.string (resF l 7 1).1.f0, .int .i64 (resF l 7 1).1.f1], .bool (resF l 7 1).2]) ∧ Below w.heap.size w w' := by
 refine gw_start (N := 24) (vs := [.string l]) Tryd.func56 rfl rfl (by simp) fun a HF HO => ?_
 replace HO : Own w w [] := HO
 refine gR fun K1 hK1 => ?_
 refine gw_new HF HO (want_none rfl) rfl (by decide) (op_alloc gwzer49 rfl) ?_
 intro g2 _ w4 H5 O6; clear HF HO
 have O7 : Own w w4 [Bk g2 [.string (⟨#[]⟩ : ByteArray), J 0] 49] := O6
 clear O6
 refine Vc H5 fun _ H9 => ?_
 refine gE hK1 ?_
 refine gw_seq fun K10 hK10 => ?_
 refine gR fun K11 hK11 => ?_
 refine Vc H9 fun _ H13 => ?_
 refine gE hK11 ?_
 clear H5 H9
 refine wp_block ?_
 refine gw_loop (fun m_ a_ w_ => ∃ (v : Int), Fr 24 a_ [(4, J v), (0, .string l), (2, .pointer (some ⟨g2, 0, none⟩))] ∧ Own w w_ [Bk g2 [.string (⟨#[]⟩ : ByteArray), J 0] 49] ∧ (1 ≤ v ∧ v ≤ 8) ∧ (resF l (8 - v).toNat v = resF l 7 1) ∧ m_ = (8 - v.toNat)) ((8 - (1 : Int).toNat)) ?_ ?_
 ·
  refine ⟨1, (H13.pick (t := 4) rfl (H13.pick (t := 0) rfl (H13.pick (t := 2) rfl H13.nil))), O7.sel [0] (by decide), ?_, ?_, rfl⟩
  ·
   omega
  rfl
 rintro m15 _ w17 ⟨v, H18, O19, hv, hR, hm20⟩
 have hvt := vt_size v
 have hz2 : (⟨#[58, 32]⟩ : ByteArray).size = 2 := rfl
 refine gw_seq fun K21 hK21 => ?_
 refine gR fun K22 hK22 => ?_
 refine Vm H18 fun _ H24 => ?_
 refine V H24 (op_leq rfl (H24.ev rfl) (ev_c _ _)) fun _ H26 => ?_
 refine gE hK22 ?_
 clear H18 H24
 refine gw_cond H26 rfl (fun hb27 => ?_) (fun hb27 => ?_)
 ·
  have H28 := H26.subst_ (d := 8) (b := true) rfl hb27
  clear H26
  (try simp only [decide_eq_true_eq] at hb27)
  refine gS hK21 ?_
  refine gw_seq fun K29 hK29 => ?_
  refine wp_block ?_
  refine gR fun K30 hK30 => ?_
  refine Vm H28 fun _ H32 => ?_
  refine Vm H32 fun _ H34 => ?_
  clear H28 H32
  refine Wk H34 Tryd.func45 rfl (ar_cons (H34.ev rfl) ar_nil) (rvt_calls v _) ?_
  rintro e35 w36 ⟨rfl, hb37⟩
  refine ⟨_, rfl, fun _ H39 => ?_⟩
  have O40 := O19.after hb37
  clear H34 O19 hb37
  refine V H39 (op_cats rfl (H39.ev rfl) (ev_c _ _) (by omega)) fun _ H43 => ?_
  clear H39
  refine Wk H43 Tryd.func36 rfl (ar_cons (H43.ev rfl) (ar_cons (H43.ev rfl) ar_nil)) (rnm_calls l ((vtB v) ++ (⟨#[58, 32]⟩ : ByteArray)) _ (by omega) (by rw [size_cat]; omega)) ?_
  rintro e44 w45 ⟨rfl, hb46⟩
  refine ⟨_, rfl, fun _ H48 => ?_⟩
  have O49 := O40.after hb46
  clear H43 O40 hb46
  refine Vm H48 fun _ H52 => ?_
  refine Vx H52 fun _ H54 => ?_
  refine Vx H54 fun _ H56 => ?_
  refine Va H56 fun _ H58 => ?_
  refine Va H58 fun _ H60 => ?_
  refine gE hK30 ?_
  refine gR fun K61 hK61 => ?_
  refine Vm H60 fun _ H63 => ?_
  refine gE hK61 ?_
  clear H48 H52 H54 H56 H58 H60
  refine gw_cond H63 rfl (fun hb64 => ?_) (fun hb64 => ?_)
  ·
   have H65 := H63.subst_ (d := 19) (b := true) rfl hb64
   clear H63
   (try simp only [Bool.not_eq_true] at hb64)
   have hyes : nmO l (vtB v ++ sepB) = true := by rw [← rnm_O]; exact hb64
   refine gR fun K66 hK66 => ?_
   refine Vm H65 fun _ H68 => ?_
   refine Vm H68 fun _ H70 => ?_
   refine V H70 (op_build (cells := #[.string ((rnm l ((vtB v) ++ (⟨#[58, 32]⟩ : ByteArray))).1), J v]) rfl (pt_cons (H70.ev rfl) (pt_cons (H70.ev rfl) pt_nil)) (by kernel_rfl)) fun _ H72 => ?_
   clear H65 H68 H70
   refine gw_setn 0 H72 O49 rfl (want_none rfl) rfl (op_storen gwsiz49 rfl (H72.ev rfl) (H72.ev rfl) (O49.get 0 rfl) rfl (by simp) (by simp [Value.oneCell'])) ?_
   intro _ w75 H74 O76; clear H72 O49
   refine Vc H74 fun _ H78 => ?_
   refine gE hK66 ?_
   refine wp_ret ?_
   clear H74
   refine gw_blr ?_
   refine gw_thr ?_
   refine gw_thr ?_
   refine gw_blr ?_
   refine gw_thr ?_
   refine gw_rets2 H78 rfl (rv_celln H78 rfl gwagg49 gwsiz49 (O76.get 0 rfl) rfl) (rv_tmp H78 rfl) ?_
   first | (have e_ : resF l 7 1 = (⟨nmB l (vtB v ++ sepB), v⟩, true) := (by rw [← hR, show (8 - v).toNat = (8 - (v + 1)).toNat + 1 by omega, resF, if_pos hyes]); exact ⟨by rw [e_, ← rnm_B hyes]; rfl, O76.below⟩) | (have e_ : resF l 7 1 = (⟨eB, 0⟩, false) := (by rw [← hR, show (8 - v).toNat = 0 by omega]; rfl); exact ⟨by rw [e_]; rfl, O76.below⟩)
  have H79 := H63.subst_ (d := 19) (b := false) rfl hb64
  clear H63
  (try simp only [Bool.not_eq_true] at hb64)
  have hno : (rnm l (vtB v ++ sepB)).2 = false := hb64
  refine wp_skip ?_
  refine gw_blk ?_
  refine gw_nx (hK29 _ _ ?_)
  refine wp_region_lit ?_
  refine Vm H79 fun _ H81 => ?_
  refine V H81 (op_add rfl (H81.ev rfl) (ev_c _ _) (by omega)) fun _ H83 => ?_
  refine Va H83 fun _ H85 => ?_
  clear H79 H81 H83
  refine wpList_nil ?_
  refine gw_nx ⟨_, ?_, v + 1, (H85.pick (t := 4) rfl (H85.pick (t := 0) rfl (H85.pick (t := 2) rfl H85.nil))), O49.sel [0] (by decide), ?_, ?_, rfl⟩
  ·
   rw [hm20]; omega
  ·
   omega
  rw [← hR, show (8 - v).toNat = (8 - (v + 1)).toNat + 1 by omega]; rw [resF_step (by rw [← rnm_O]; exact hno)]
 have H86 := H26.subst_ (d := 8) (b := false) rfl hb27
 clear H26
 (try simp only [decide_eq_false_iff_not, Int.not_le] at hb27)
 refine wp_exit ?_
 refine gw_thx ?_
 refine gw_thx ?_
 refine gw_in ?_
 refine gw_nx (hK10 _ _ ?_)
 refine gR fun K87 hK87 => ?_
 refine V H86 (op_build (cells := #[.string (⟨#[]⟩ : ByteArray), J 0]) rfl pt_nil (by kernel_rfl)) fun _ H89 => ?_
 clear H86
 refine gw_setn 0 H89 O19 rfl (want_none rfl) rfl (op_storen gwsiz49 rfl (H89.ev rfl) (H89.ev rfl) (O19.get 0 rfl) rfl (by simp) (by simp [Value.oneCell'])) ?_
 intro _ w92 H91 O93; clear H89 O19
 refine Vc H91 fun _ H95 => ?_
 refine gE hK87 ?_
 refine wp_ret ?_
 clear H91
 refine gw_rets2 H95 rfl (rv_celln H95 rfl gwagg49 gwsiz49 (O93.get 0 rfl) rfl) (rv_tmp H95 rfl) ?_
 first | (have e_ : resF l 7 1 = (⟨nmB l (vtB v ++ sepB), v⟩, true) := (by rw [← hR, show (8 - v).toNat = (8 - (v + 1)).toNat + 1 by omega, resF, if_pos hyes]); exact ⟨by rw [e_, ← rnm_B hyes]; rfl, O93.below⟩) | (have e_ : resF l 7 1 = (⟨eB, 0⟩, false) := (by rw [← hR, show (8 - v).toNat = 0 by omega]; rfl); exact ⟨by rw [e_]; rfl, O93.below⟩)
end GRefN_
export GRefN_ (beh_calls rnm_calls res_calls)
namespace GBody_
theorem body_calls (su bo : ByteArray) (A9 : Option Addr) (c9 : Nat) (AL : List ByteArray) (w : World) (hr : Kd.C Kd.string w A9 AL.length AL) (hc : AL.length ≤ c9) (h2 : 2 ≤ AL.length) (hAL : AL.length ≤ 100000000) (hAs : ∀ j : Nat, (AL.getD j (⟨#[]⟩ : ByteArray)).size ≤ 1000000000) :
    Calls Tryd.prog 37 #[.agg #[.string su, .string bo, .slice none 0 0], .slice A9 AL.length c9] w fun e w' => ∃ A_ c_ S_, e = .returned (.tuple #[.agg #[.string su, .string bo, .slice A_ ((bodyF (AL.drop 2) 2 []).1.map cv).length c_], .int .i64 (bodyF (AL.drop 2) 2 []).2]) ∧ Out w w' (fun _ => False) [Chunk.view KQ S_ A_ ((bodyF (AL.drop 2) 2 []).1.map cv).length c_ ((bodyF (AL.drop 2) 2 []).1.map cv)] := by
 have hpl := len_C hr
 refine gw_start (N := 80) (vs := [.agg #[.string su, .string bo, .slice none 0 0], .slice A9 AL.length c9]) Tryd.func37 rfl rfl (by simp) fun a HF HO => ?_
 replace HO : Own w w [] := HO
 refine gR fun K1 hK1 => ?_
 refine gw_new HF HO (want_none rfl) rfl (by decide) (op_box rfl (HF.ev rfl)) ?_
 intro g2 _ w4 H5 O6; clear HF HO
 have O7 : Own w w4 [Bk g2 [.string su, .string bo, .slice none 0 0] 29] := O6
 clear O6
 refine gw_new H5 O7 (want_none rfl) rfl (by decide) (op_alloc gwzer29 rfl) ?_
 intro g8 _ w10 H11 O12; clear H5 O7
 have O13 : Own w w10 [Bk g8 [.string (⟨#[]⟩ : ByteArray), .string (⟨#[]⟩ : ByteArray), .slice none 0 0] 29, Bk g2 [.string su, .string bo, .slice none 0 0] 29] := O12
 clear O12
 refine Vc H11 fun _ H15 => ?_
 refine gE hK1 ?_
 refine gw_seq fun K16 hK16 => ?_
 refine gR fun K17 hK17 => ?_
 refine Vc H15 fun _ H19 => ?_
 refine gE hK17 ?_
 clear H11 H15
 refine wp_block ?_
 obtain ⟨S21, O20⟩ := O13.spq_start
 clear O13
 refine gw_loop (fun m_ a_ w_ => ∃ (i : Int) (ps : List PP) (A : Option Addr) (c : Nat) (S : Nat → Prop), Fr 80 a_ [(6, J i), (1, .slice A9 AL.length c9), (2, .pointer (some ⟨g2, 0, none⟩)), (4, .pointer (some ⟨g8, 0, none⟩))] ∧ Own w w_ [Chunk.spq w.heap.size S A c ps, Bk g8 [.string (⟨#[]⟩ : ByteArray), .string (⟨#[]⟩ : ByteArray), .slice none 0 0] 29, Bk g2 [.string su, .string bo, .slice A ps.length c] 29] ∧ (2 ≤ i ∧ i ≤ AL.length) ∧ (i = 2 + (ps.length : Int) + sumL ps) ∧ (bodyF (AL.drop i.toNat) i ps = (bodyF (AL.drop 2) 2 [])) ∧ m_ = (AL.length - i.toNat)) ((AL.length - (2 : Int).toNat)) ?_ ?_
 ·
  refine ⟨2, ([] : List PP), none, 0, _, (H19.pick (t := 6) rfl (H19.pick (t := 1) rfl (H19.pick (t := 2) rfl (H19.pick (t := 4) rfl H19.nil)))), O20.sel [0, 1, 2] (by decide), ?_, ?_, ?_, rfl⟩
  ·
   omega
  ·
   simp [sumL]
  rfl
 rintro m23 _ w25 ⟨i, ps, A, c, S, H26, O27, hi, hcnt, hB, hm28⟩
 refine gw_seq fun K29 hK29 => ?_
 refine gR fun K30 hK30 => ?_
 refine Vm H26 fun _ H32 => ?_
 refine Vm H32 fun _ H34 => ?_
 refine V H34 (op_len Tryd.underlying58 rfl (H34.ev rfl)) fun _ H36 => ?_
 refine V H36 (op_lss rfl (H36.ev rfl) (H36.ev rfl)) fun _ H38 => ?_
 refine gE hK30 ?_
 clear H26 H32 H34 H36
 refine gw_cond H38 rfl (fun hb39 => ?_) (fun hb39 => ?_)
 ·
  have H40 := H38.subst_ (d := 15) (b := true) rfl hb39
  clear H38
  (try simp only [decide_eq_true_eq] at hb39)
  rcases spq_ways (O27.sel [2, 0, 1] (by decide)) with ⟨hps, Sr, Sd, hoX⟩ | ⟨Wd, qs, g0, xs, A2, c2, Sr, Sd, Sl, hps, hoX⟩
  ·
   clear O27
   subst hps
   have hcap : ([] : List W2).length ≤ c := row_cap (hoX.get 1 rfl)
   refine gS hK29 ?_
   refine gw_seq fun K41 hK41 => ?_
   refine wp_block ?_
   refine gR fun K42 hK42 => ?_
   refine Vm H40 fun _ H44 => ?_
   refine Vm H44 fun _ H46 => ?_
   clear H40 H44
   obtain ⟨ad47, cs50, hA48, hl51, hK52, hc49⟩ := Kd.C_get hr (⟨#[]⟩ : ByteArray) i (by omega) (by omega)
   obtain rfl := id hK52
   clear hl51
   refine V H46 (op_index Tryd.underlying58 gwsiz9 rfl (H46.ev rfl) (H46.ev rfl) hA48 (⟨by omega, by omega⟩)) fun _ H54 => ?_
   refine V H54 (op_load1 gwagg9 rfl (H54.ev rfl) (hoX.cell0 (at0 hc49))) fun _ H56 => ?_
   clear H46 H54
   refine Wk H56 Tryd.func36 rfl (ar_cons (H56.ev rfl) (ar_cons (ev_c _ _) ar_nil)) (rnm_calls (AL.getD i.toNat (⟨#[]⟩ : ByteArray)) (⟨#[103, 114, 111, 117, 112, 32]⟩ : ByteArray) _ (by exact hAs _) (by decide)) ?_
   rintro e57 w58 ⟨rfl, hb59⟩
   refine ⟨_, rfl, fun _ H61 => ?_⟩
   have O62 := hoX.after hb59
   clear H56 hoX hb59
   refine Vm H61 fun _ H65 => ?_
   refine Vx H65 fun _ H67 => ?_
   refine Vx H67 fun _ H69 => ?_
   refine Va H69 fun _ H71 => ?_
   refine Va H71 fun _ H73 => ?_
   refine gE hK42 ?_
   refine gw_seq fun K74 hK74 => ?_
   refine gR fun K75 hK75 => ?_
   refine Vm H73 fun _ H77 => ?_
   refine gE hK75 ?_
   clear H61 H65 H67 H69 H71 H73
   refine gw_cond H77 rfl (fun hb78 => ?_) (fun hb78 => ?_)
   ·
    have H79 := H77.subst_ (d := 26) (b := true) rfl hb78
    clear H77
    (try simp only [Bool.not_eq_true] at hb78)
    have hgy : nmO (AL.getD i.toNat (⟨#[]⟩ : ByteArray)) grpB = true := by rw [← rnm_O]; exact hb78
    refine gR fun K80 hK80 => ?_
    refine Vf H79 (gwfld29_2 _ _) fun _ H82 => ?_
    refine Vl H82 gwagg27 (O62.get 0 rfl) fun _ H84 => ?_
    refine Vm H84 fun _ H86 => ?_
    refine V H86 (op_build (cells := #[.string ((rnm (AL.getD i.toNat (⟨#[]⟩ : ByteArray)) (⟨#[103, 114, 111, 117, 112, 32]⟩ : ByteArray)).1), .slice none 0 0]) rfl (pt_cons (H86.ev rfl) pt_nil) (by kernel_rfl)) fun _ H88 => ?_
    clear H79 H82 H84 H86
    refine gw_news (O := .cells #[.string ((rnm (AL.getD i.toNat (⟨#[]⟩ : ByteArray)) (⟨#[103, 114, 111, 117, 112, 32]⟩ : ByteArray)).1), .slice none 0 0] 53 (0, 0)) (n := 1) H88 O62 (want_none rfl) rfl (by decide) (op_bslice (by kernel_rfl) rfl (pt_cons (H88.ev rfl) pt_nil)) ?_
    intro g89 _ w91 H92 O93; clear H88 O62
    have O94 : Own w w91 [Bk g89 [.string ((rnm (AL.getD i.toNat (⟨#[]⟩ : ByteArray)) (⟨#[103, 114, 111, 117, 112, 32]⟩ : ByteArray)).1), .slice none 0 0] 53, Bk g2 [.string su, .string bo, .slice A (([] : List W2).length) c] 29, Chunk.row kW 53 w.heap.size Sr (.slice A (([] : List W2).length) c) ([] : List W2), Chunk.dn w.heap.size Sd [] [], Bk g8 [.string (⟨#[]⟩ : ByteArray), .string (⟨#[]⟩ : ByteArray), .slice none 0 0] 29] := O93
    clear O93
    have O95 : Own w _ [Chunk.row kW 53 w.heap.size Sr (.slice A (([] : List W2).length) c) ([] : List W2), Chunk.void, Bk g89 [.string ((rnm (AL.getD i.toNat (⟨#[]⟩ : ByteArray)) (⟨#[103, 114, 111, 117, 112, 32]⟩ : ByteArray)).1), .slice none 0 0] 53, Bk g2 [.string su, .string bo, .slice A (([] : List W2).length) c] 29, Chunk.dn w.heap.size Sd [] [], Bk g8 [.string (⟨#[]⟩ : ByteArray), .string (⟨#[]⟩ : ByteArray), .slice none 0 0] 29] := O94.void.sel [3, 0, 1, 2, 4, 5] (by decide)
    refine gw_append1 kW 0 (p := (⟨(rnm (AL.getD i.toNat (⟨#[]⟩ : ByteArray)) (⟨#[103, 114, 111, 117, 112, 32]⟩ : ByteArray)).1, ⟨none, 0, 0⟩⟩ : W2)) (cs := [.string ((rnm (AL.getD i.toNat (⟨#[]⟩ : ByteArray)) (⟨#[103, 114, 111, 117, 112, 32]⟩ : ByteArray)).1), .slice none 0 0]) H92 O95 (want_none rfl) rfl (by decide) rfl Tryd.underlying27 gwinfo53 rfl (by decide) (by decide) rfl (H92.ev rfl) (H92.ev rfl) (fun w_ h_ => kW_mkM w_ _ _ (⟨(rnm (AL.getD i.toNat (⟨#[]⟩ : ByteArray)) (⟨#[103, 114, 111, 117, 112, 32]⟩ : ByteArray)).1, ⟨none, 0, 0⟩⟩ : W2) ) O95.below.size (by first | (rw [hwl]; omega) | (simp; done) | (simp; omega)) ?_
    intro A96 c97 S98 _ w100 H101 O102; clear H92 O94 O95
    have O103 : Own w w100 [Chunk.row kW 53 w.heap.size S98 (.slice A96 ((([] : List W2) ++ [(⟨(rnm (AL.getD i.toNat (⟨#[]⟩ : ByteArray)) (⟨#[103, 114, 111, 117, 112, 32]⟩ : ByteArray)).1, ⟨none, 0, 0⟩⟩ : W2)]).length) c97) (([] : List W2) ++ [(⟨(rnm (AL.getD i.toNat (⟨#[]⟩ : ByteArray)) (⟨#[103, 114, 111, 117, 112, 32]⟩ : ByteArray)).1, ⟨none, 0, 0⟩⟩ : W2)]), Bk g89 [.string ((rnm (AL.getD i.toNat (⟨#[]⟩ : ByteArray)) (⟨#[103, 114, 111, 117, 112, 32]⟩ : ByteArray)).1), .slice none 0 0] 53, Bk g2 [.string su, .string bo, .slice A (([] : List W2).length) c] 29, Chunk.dn w.heap.size Sd [] [], Bk g8 [.string (⟨#[]⟩ : ByteArray), .string (⟨#[]⟩ : ByteArray), .slice none 0 0] 29] := O102
    clear O102
    refine Vf H101 (gwfld29_2 _ _) fun _ H105 => ?_
    clear H101
    refine gw_set 2 H105 O103 rfl (want_none rfl) rfl (op_store1 gwsiz27 rfl (H105.ev rfl) (H105.ev rfl) rfl (blk_at (O103.get 2 rfl) rfl) (blkf (O103.get 2 rfl))) ?_
    intro _ w108 H107 O109; clear H105 O103
    refine gE hK80 ?_
    refine wp_exit ?_
    refine gw_thx ?_
    refine gw_in ?_
    refine gw_nx (hK41 _ _ ?_)
    refine wp_region_lit ?_
    refine Vm H107 fun _ H111 => ?_
    refine V H111 (op_add rfl (H111.ev rfl) (ev_c _ _) (by omega)) fun _ H113 => ?_
    refine Va H113 fun _ H115 => ?_
    clear H107 H111 H113
    refine wpList_nil ?_
    have O116_1 := O109.sel [3, 2, 0, 1, 4] (by decide)
    have O116_2 := O116_1.row_nil KR 49 w.heap.size
    obtain ⟨S117, O116⟩ := spq_back (xs := []) (A2 := none) (c2 := 0) (O116_2.sel [2, 3, 1, 0, 4, 5] (by decide))
    clear O109
    refine gw_nx ⟨_, ?_, i + 1, (([] : List PP) ++ [(⟨(rnm (AL.getD i.toNat (⟨#[]⟩ : ByteArray)) (⟨#[103, 114, 111, 117, 112, 32]⟩ : ByteArray)).1, []⟩ : PP)]), A96, c97, S117, (H115.pick (t := 6) rfl (H115.pick (t := 1) rfl (H115.pick (t := 2) rfl (H115.pick (t := 4) rfl H115.nil)))), O116.sel [1, 3, 0] (by decide), ?_, ?_, ?_, rfl⟩
    ·
     rw [hm28]; omega
    ·
     omega
    ·
     have e_ : lineS ([] : List PP) (AL.getD i.toNat (⟨#[]⟩ : ByteArray)) = (([] : List PP) ++ [(⟨(rnm (AL.getD i.toNat (⟨#[]⟩ : ByteArray)) (⟨#[103, 114, 111, 117, 112, 32]⟩ : ByteArray)).1, []⟩ : PP)]) := (by rw [(step_grp ([] : List PP) (AL.getD i.toNat (⟨#[]⟩ : ByteArray)) hgy).2, rnm_B hgy]); have h_ := line_count ([] : List PP) (AL.getD i.toNat (⟨#[]⟩ : ByteArray)) (step_grp ([] : List PP) (AL.getD i.toNat (⟨#[]⟩ : ByteArray)) hgy).1; rw [e_] at h_; omega
    have e_ : lineS ([] : List PP) (AL.getD i.toNat (⟨#[]⟩ : ByteArray)) = (([] : List PP) ++ [(⟨(rnm (AL.getD i.toNat (⟨#[]⟩ : ByteArray)) (⟨#[103, 114, 111, 117, 112, 32]⟩ : ByteArray)).1, []⟩ : PP)]) := (by rw [(step_grp ([] : List PP) (AL.getD i.toNat (⟨#[]⟩ : ByteArray)) hgy).2, rnm_B hgy]); rw [← hB, bodyF_at AL i _ (by omega) (by omega), if_pos (step_grp ([] : List PP) (AL.getD i.toNat (⟨#[]⟩ : ByteArray)) hgy).1, e_]
   have H118 := H77.subst_ (d := 26) (b := false) rfl hb78
   clear H77
   (try simp only [Bool.not_eq_true] at hb78)
   have hgn : nmO (AL.getD i.toNat (⟨#[]⟩ : ByteArray)) grpB = false := by rw [← rnm_O]; exact hb78
   refine gS hK74 ?_
   refine gR fun K119 hK119 => ?_
   refine Vm H118 fun _ H121 => ?_
   refine Vm H121 fun _ H123 => ?_
   clear H118 H121
   obtain ⟨ad124, cs127, hA125, hl128, hK129, hc126⟩ := Kd.C_get hr (⟨#[]⟩ : ByteArray) i (by omega) (by omega)
   obtain rfl := id hK129
   clear hl128
   refine V H123 (op_index Tryd.underlying58 gwsiz9 rfl (H123.ev rfl) (H123.ev rfl) hA125 (⟨by omega, by omega⟩)) fun _ H131 => ?_
   refine V H131 (op_load1 gwagg9 rfl (H131.ev rfl) (O62.cell0 (at0 hc126))) fun _ H133 => ?_
   clear H123 H131
   refine Wk H133 Tryd.func56 rfl (ar_cons (H133.ev rfl) ar_nil) (res_calls (AL.getD i.toNat (⟨#[]⟩ : ByteArray)) _ (by exact hAs _)) ?_
   rintro e134 w135 ⟨rfl, hb136⟩
   refine ⟨_, rfl, fun _ H138 => ?_⟩
   have O139 := O62.after hb136
   clear H133 O62 hb136
   refine Vm H138 fun _ H142 => ?_
   refine Vx H142 fun _ H144 => ?_
   refine Vx H144 fun _ H146 => ?_
   clear H138 H142 H144
   refine gw_new H146 O139 (want_none rfl) rfl (by decide) (op_alloc gwzer49 rfl) ?_
   intro g147 _ w149 H150 O151; clear H146 O139
   have O152 : Own w w149 [Bk g147 [.string (⟨#[]⟩ : ByteArray), J 0] 49, Bk g2 [.string su, .string bo, .slice A (([] : List W2).length) c] 29, Chunk.row kW 53 w.heap.size Sr (.slice A (([] : List W2).length) c) ([] : List W2), Chunk.dn w.heap.size Sd [] [], Bk g8 [.string (⟨#[]⟩ : ByteArray), .string (⟨#[]⟩ : ByteArray), .slice none 0 0] 29] := O151
   clear O151
   refine gw_setn 0 H150 O152 rfl (want_none rfl) rfl (op_storen gwsiz49 rfl (H150.ev rfl) (H150.ev rfl) (O152.get 0 rfl) rfl (by simp) (by simp [Value.oneCell'])) ?_
   intro _ w155 H154 O156; clear H150 O152
   refine Va H154 fun _ H158 => ?_
   refine gE hK119 ?_
   refine gw_seq fun K159 hK159 => ?_
   refine gR fun K160 hK160 => ?_
   refine Vm H158 fun _ H162 => ?_
   refine V H162 (op_not rfl (H162.ev rfl)) fun _ H164 => ?_
   refine Vm H164 fun _ H166 => ?_
   clear H154 H158 H162 H164
   refine gw_evG H166 rfl rfl rfl rfl (on_f _) rfl (by decide) (fun h_ => (op_field (gwfld29_2 _ _) rfl (H166.ev rfl))) ?_
   intro _ H168; clear H166
   refine gw_evG H168 rfl rfl rfl rfl (on_f _) rfl (by decide) (fun h_ => (op_load1 gwagg27 rfl (ev_gv (H168.ev rfl) h_) (blk_at (O156.get 1 rfl) rfl))) ?_
   intro _ H170; clear H168
   refine gw_evG H170 rfl rfl rfl rfl (on_f _) rfl (by decide) (fun h_ => (op_len Tryd.underlying27 rfl (ev_gv (H170.ev rfl) h_))) ?_
   intro _ H172; clear H170
   refine gw_evG H172 rfl rfl rfl rfl (on_f _) rfl (by decide) (fun h_ => (op_eqi rfl (ev_gv (H172.ev rfl) h_) (ev_c _ _))) ?_
   intro _ H174; clear H172
   refine V H174 (op_pick_or rfl (H174.ev rfl) (ev_c _ _) (fun hp_ => (ev_gv (H174.ev rfl) (not_t hp_)))) fun _ H176 => ?_
   clear H174
   have hlo : lineO ([] : List PP) (AL.getD i.toNat (⟨#[]⟩ : ByteArray)) = false := by rw [(step_res [] (AL.getD i.toNat (⟨#[]⟩ : ByteArray)) hgn).1]; simp
   have H177 := H176.lit (b := true) (by simp)
   clear H176
   refine gE hK160 ?_
   refine gw_cond H177 rfl (fun hb178 => ?_) (fun hb178 => ?_)
   rotate_left
   ·
    cases hb178
   refine gR fun K179 hK179 => ?_
   refine V H177 (op_loadn gwagg29 gwsiz29 rfl (H177.ev rfl) (O156.get 1 rfl) rfl rfl) fun _ H181 => ?_
   refine Vm H181 fun _ H183 => ?_
   clear H177 H181
   refine gw_setn 4 H183 O156 rfl (want_none rfl) rfl (op_storen gwsiz29 rfl (H183.ev rfl) (H183.ev rfl) (O156.get 4 rfl) rfl (by simp) (by simp [Value.oneCell'])) ?_
   intro _ w186 H185 O187; clear H183 O156
   refine Va H185 fun _ H189 => ?_
   refine gE hK179 ?_
   refine wp_ret ?_
   clear H185
   refine gw_thr ?_
   refine gw_blr ?_
   refine gw_thr ?_
   refine gw_thr ?_
   refine gw_blr ?_
   refine gw_thr ?_
   refine gw_rets2 H189 rfl (rv_celln H189 rfl gwagg29 gwsiz29 (O187.get 4 rfl) rfl) (rv_tmp H189 rfl) ?_
   have hq : (bodyF (AL.drop 2) 2 []) = (([] : List PP), i) := by rw [← hB, bodyF_at AL i _ (by omega) (by omega), if_neg (by rw [hlo]; decide)]
   rw [hq]
   have O190_1 := (O187.sel [2, 3] (by decide)).dn_viewq
   exact ⟨_, _, _, rfl, (O190_1.sel [0] (by decide)).out⟩
  clear O27
  subst hps
  have hcap : (Wd ++ [(⟨g0, ⟨A2, xs.length, c2⟩⟩ : W2)]).length ≤ c := row_cap (hoX.get 1 rfl)
  have hdl : Wd.length = qs.length := (show dnP _ _ _ Wd qs from hoX.get 2 rfl).1
  have hwl : (Wd ++ [(⟨g0, ⟨A2, xs.length, c2⟩⟩ : W2)]).length = qs.length + 1 := by rw [List.length_append, hdl]; rfl
  have hql : (qs ++ [(⟨g0, xs⟩ : PP)]).length = qs.length + 1 := by rw [List.length_append]; rfl
  have hxl : xs.length ≤ sumL (qs ++ [(⟨g0, xs⟩ : PP)]) := by rw [sum_snoc]; exact Nat.le_add_left _ _
  refine gS hK29 ?_
  refine gw_seq fun K191 hK191 => ?_
  refine wp_block ?_
  refine gR fun K192 hK192 => ?_
  refine Vm H40 fun _ H194 => ?_
  refine Vm H194 fun _ H196 => ?_
  clear H40 H194
  obtain ⟨ad197, cs200, hA198, hl201, hK202, hc199⟩ := Kd.C_get hr (⟨#[]⟩ : ByteArray) i (by omega) (by omega)
  obtain rfl := id hK202
  clear hl201
  refine V H196 (op_index Tryd.underlying58 gwsiz9 rfl (H196.ev rfl) (H196.ev rfl) hA198 (⟨by omega, by omega⟩)) fun _ H204 => ?_
  refine V H204 (op_load1 gwagg9 rfl (H204.ev rfl) (hoX.cell0 (at0 hc199))) fun _ H206 => ?_
  clear H196 H204
  refine Wk H206 Tryd.func36 rfl (ar_cons (H206.ev rfl) (ar_cons (ev_c _ _) ar_nil)) (rnm_calls (AL.getD i.toNat (⟨#[]⟩ : ByteArray)) (⟨#[103, 114, 111, 117, 112, 32]⟩ : ByteArray) _ (by exact hAs _) (by decide)) ?_
  rintro e207 w208 ⟨rfl, hb209⟩
  refine ⟨_, rfl, fun _ H211 => ?_⟩
  have O212 := hoX.after hb209
  clear H206 hoX hb209
  refine Vm H211 fun _ H215 => ?_
  refine Vx H215 fun _ H217 => ?_
  refine Vx H217 fun _ H219 => ?_
  refine Va H219 fun _ H221 => ?_
  refine Va H221 fun _ H223 => ?_
  refine gE hK192 ?_
  refine gw_seq fun K224 hK224 => ?_
  refine gR fun K225 hK225 => ?_
  refine Vm H223 fun _ H227 => ?_
  refine gE hK225 ?_
  clear H211 H215 H217 H219 H221 H223
  refine gw_cond H227 rfl (fun hb228 => ?_) (fun hb228 => ?_)
  ·
   have H229 := H227.subst_ (d := 26) (b := true) rfl hb228
   clear H227
   (try simp only [Bool.not_eq_true] at hb228)
   have hgy : nmO (AL.getD i.toNat (⟨#[]⟩ : ByteArray)) grpB = true := by rw [← rnm_O]; exact hb228
   refine gR fun K230 hK230 => ?_
   refine Vf H229 (gwfld29_2 _ _) fun _ H232 => ?_
   refine Vl H232 gwagg27 (O212.get 0 rfl) fun _ H234 => ?_
   refine Vm H234 fun _ H236 => ?_
   refine V H236 (op_build (cells := #[.string ((rnm (AL.getD i.toNat (⟨#[]⟩ : ByteArray)) (⟨#[103, 114, 111, 117, 112, 32]⟩ : ByteArray)).1), .slice none 0 0]) rfl (pt_cons (H236.ev rfl) pt_nil) (by kernel_rfl)) fun _ H238 => ?_
   clear H229 H232 H234 H236
   refine gw_news (O := .cells #[.string ((rnm (AL.getD i.toNat (⟨#[]⟩ : ByteArray)) (⟨#[103, 114, 111, 117, 112, 32]⟩ : ByteArray)).1), .slice none 0 0] 53 (0, 0)) (n := 1) H238 O212 (want_none rfl) rfl (by decide) (op_bslice (by kernel_rfl) rfl (pt_cons (H238.ev rfl) pt_nil)) ?_
   intro g239 _ w241 H242 O243; clear H238 O212
   have O244 : Own w w241 [Bk g239 [.string ((rnm (AL.getD i.toNat (⟨#[]⟩ : ByteArray)) (⟨#[103, 114, 111, 117, 112, 32]⟩ : ByteArray)).1), .slice none 0 0] 53, Bk g2 [.string su, .string bo, .slice A ((Wd ++ [(⟨g0, ⟨A2, xs.length, c2⟩⟩ : W2)]).length) c] 29, Chunk.row kW 53 w.heap.size Sr (.slice A ((Wd ++ [(⟨g0, ⟨A2, xs.length, c2⟩⟩ : W2)]).length) c) (Wd ++ [(⟨g0, ⟨A2, xs.length, c2⟩⟩ : W2)]), Chunk.dn w.heap.size Sd Wd qs, Chunk.row KR 49 w.heap.size Sl (.slice A2 xs.length c2) xs, Bk g8 [.string (⟨#[]⟩ : ByteArray), .string (⟨#[]⟩ : ByteArray), .slice none 0 0] 29] := O243
   clear O243
   have O245 : Own w _ [Chunk.row kW 53 w.heap.size Sr (.slice A ((Wd ++ [(⟨g0, ⟨A2, xs.length, c2⟩⟩ : W2)]).length) c) (Wd ++ [(⟨g0, ⟨A2, xs.length, c2⟩⟩ : W2)]), Chunk.void, Bk g239 [.string ((rnm (AL.getD i.toNat (⟨#[]⟩ : ByteArray)) (⟨#[103, 114, 111, 117, 112, 32]⟩ : ByteArray)).1), .slice none 0 0] 53, Bk g2 [.string su, .string bo, .slice A ((Wd ++ [(⟨g0, ⟨A2, xs.length, c2⟩⟩ : W2)]).length) c] 29, Chunk.dn w.heap.size Sd Wd qs, Chunk.row KR 49 w.heap.size Sl (.slice A2 xs.length c2) xs, Bk g8 [.string (⟨#[]⟩ : ByteArray), .string (⟨#[]⟩ : ByteArray), .slice none 0 0] 29] := O244.void.sel [3, 0, 1, 2, 4, 5, 6] (by decide)
   refine gw_append1 kW 0 (p := (⟨(rnm (AL.getD i.toNat (⟨#[]⟩ : ByteArray)) (⟨#[103, 114, 111, 117, 112, 32]⟩ : ByteArray)).1, ⟨none, 0, 0⟩⟩ : W2)) (cs := [.string ((rnm (AL.getD i.toNat (⟨#[]⟩ : ByteArray)) (⟨#[103, 114, 111, 117, 112, 32]⟩ : ByteArray)).1), .slice none 0 0]) H242 O245 (want_none rfl) rfl (by decide) rfl Tryd.underlying27 gwinfo53 rfl (by decide) (by decide) rfl (H242.ev rfl) (H242.ev rfl) (fun w_ h_ => kW_mkM w_ _ _ (⟨(rnm (AL.getD i.toNat (⟨#[]⟩ : ByteArray)) (⟨#[103, 114, 111, 117, 112, 32]⟩ : ByteArray)).1, ⟨none, 0, 0⟩⟩ : W2) ) O245.below.size (by first | (rw [hwl]; omega) | (simp; done) | (simp; omega)) ?_
   intro A246 c247 S248 _ w250 H251 O252; clear H242 O244 O245
   have O253 : Own w w250 [Chunk.row kW 53 w.heap.size S248 (.slice A246 (((Wd ++ [(⟨g0, ⟨A2, xs.length, c2⟩⟩ : W2)]) ++ [(⟨(rnm (AL.getD i.toNat (⟨#[]⟩ : ByteArray)) (⟨#[103, 114, 111, 117, 112, 32]⟩ : ByteArray)).1, ⟨none, 0, 0⟩⟩ : W2)]).length) c247) ((Wd ++ [(⟨g0, ⟨A2, xs.length, c2⟩⟩ : W2)]) ++ [(⟨(rnm (AL.getD i.toNat (⟨#[]⟩ : ByteArray)) (⟨#[103, 114, 111, 117, 112, 32]⟩ : ByteArray)).1, ⟨none, 0, 0⟩⟩ : W2)]), Bk g239 [.string ((rnm (AL.getD i.toNat (⟨#[]⟩ : ByteArray)) (⟨#[103, 114, 111, 117, 112, 32]⟩ : ByteArray)).1), .slice none 0 0] 53, Bk g2 [.string su, .string bo, .slice A ((Wd ++ [(⟨g0, ⟨A2, xs.length, c2⟩⟩ : W2)]).length) c] 29, Chunk.dn w.heap.size Sd Wd qs, Chunk.row KR 49 w.heap.size Sl (.slice A2 xs.length c2) xs, Bk g8 [.string (⟨#[]⟩ : ByteArray), .string (⟨#[]⟩ : ByteArray), .slice none 0 0] 29] := O252
   clear O252
   refine Vf H251 (gwfld29_2 _ _) fun _ H255 => ?_
   clear H251
   refine gw_set 2 H255 O253 rfl (want_none rfl) rfl (op_store1 gwsiz27 rfl (H255.ev rfl) (H255.ev rfl) rfl (blk_at (O253.get 2 rfl) rfl) (blkf (O253.get 2 rfl))) ?_
   intro _ w258 H257 O259; clear H255 O253
   refine gE hK230 ?_
   refine wp_exit ?_
   refine gw_thx ?_
   refine gw_in ?_
   refine gw_nx (hK191 _ _ ?_)
   refine wp_region_lit ?_
   refine Vm H257 fun _ H261 => ?_
   refine V H261 (op_add rfl (H261.ev rfl) (ev_c _ _) (by omega)) fun _ H263 => ?_
   refine Va H263 fun _ H265 => ?_
   clear H257 H261 H263
   refine wpList_nil ?_
   have O266_1 := (O259.sel [4, 3, 2, 0, 1, 5] (by decide)).dn_push (gn := g0)
   have O266_2 := O266_1.row_nil KR 49 w.heap.size
   obtain ⟨S267, O266⟩ := spq_back (xs := []) (A2 := none) (c2 := 0) (O266_2.sel [2, 3, 1, 0, 4, 5] (by decide))
   clear O259
   refine gw_nx ⟨_, ?_, i + 1, ((qs ++ [(⟨g0, xs⟩ : PP)]) ++ [(⟨(rnm (AL.getD i.toNat (⟨#[]⟩ : ByteArray)) (⟨#[103, 114, 111, 117, 112, 32]⟩ : ByteArray)).1, []⟩ : PP)]), A246, c247, S267, (H265.pick (t := 6) rfl (H265.pick (t := 1) rfl (H265.pick (t := 2) rfl (H265.pick (t := 4) rfl H265.nil)))), O266.sel [1, 3, 0] (by decide), ?_, ?_, ?_, rfl⟩
   ·
    rw [hm28]; omega
   ·
    omega
   ·
    have e_ : lineS (qs ++ [(⟨g0, xs⟩ : PP)]) (AL.getD i.toNat (⟨#[]⟩ : ByteArray)) = ((qs ++ [(⟨g0, xs⟩ : PP)]) ++ [(⟨(rnm (AL.getD i.toNat (⟨#[]⟩ : ByteArray)) (⟨#[103, 114, 111, 117, 112, 32]⟩ : ByteArray)).1, []⟩ : PP)]) := (by rw [(step_grp (qs ++ [(⟨g0, xs⟩ : PP)]) (AL.getD i.toNat (⟨#[]⟩ : ByteArray)) hgy).2, rnm_B hgy]); have h_ := line_count (qs ++ [(⟨g0, xs⟩ : PP)]) (AL.getD i.toNat (⟨#[]⟩ : ByteArray)) (step_grp (qs ++ [(⟨g0, xs⟩ : PP)]) (AL.getD i.toNat (⟨#[]⟩ : ByteArray)) hgy).1; rw [e_] at h_; omega
   have e_ : lineS (qs ++ [(⟨g0, xs⟩ : PP)]) (AL.getD i.toNat (⟨#[]⟩ : ByteArray)) = ((qs ++ [(⟨g0, xs⟩ : PP)]) ++ [(⟨(rnm (AL.getD i.toNat (⟨#[]⟩ : ByteArray)) (⟨#[103, 114, 111, 117, 112, 32]⟩ : ByteArray)).1, []⟩ : PP)]) := (by rw [(step_grp (qs ++ [(⟨g0, xs⟩ : PP)]) (AL.getD i.toNat (⟨#[]⟩ : ByteArray)) hgy).2, rnm_B hgy]); rw [← hB, bodyF_at AL i _ (by omega) (by omega), if_pos (step_grp (qs ++ [(⟨g0, xs⟩ : PP)]) (AL.getD i.toNat (⟨#[]⟩ : ByteArray)) hgy).1, e_]
  have H268 := H227.subst_ (d := 26) (b := false) rfl hb228
  clear H227
  (try simp only [Bool.not_eq_true] at hb228)
  have hgn : nmO (AL.getD i.toNat (⟨#[]⟩ : ByteArray)) grpB = false := by rw [← rnm_O]; exact hb228
  refine gS hK224 ?_
  refine gR fun K269 hK269 => ?_
  refine Vm H268 fun _ H271 => ?_
  refine Vm H271 fun _ H273 => ?_
  clear H268 H271
  obtain ⟨ad274, cs277, hA275, hl278, hK279, hc276⟩ := Kd.C_get hr (⟨#[]⟩ : ByteArray) i (by omega) (by omega)
  obtain rfl := id hK279
  clear hl278
  refine V H273 (op_index Tryd.underlying58 gwsiz9 rfl (H273.ev rfl) (H273.ev rfl) hA275 (⟨by omega, by omega⟩)) fun _ H281 => ?_
  refine V H281 (op_load1 gwagg9 rfl (H281.ev rfl) (O212.cell0 (at0 hc276))) fun _ H283 => ?_
  clear H273 H281
  refine Wk H283 Tryd.func56 rfl (ar_cons (H283.ev rfl) ar_nil) (res_calls (AL.getD i.toNat (⟨#[]⟩ : ByteArray)) _ (by exact hAs _)) ?_
  rintro e284 w285 ⟨rfl, hb286⟩
  refine ⟨_, rfl, fun _ H288 => ?_⟩
  have O289 := O212.after hb286
  clear H283 O212 hb286
  refine Vm H288 fun _ H292 => ?_
  refine Vx H292 fun _ H294 => ?_
  refine Vx H294 fun _ H296 => ?_
  clear H288 H292 H294
  refine gw_new H296 O289 (want_none rfl) rfl (by decide) (op_alloc gwzer49 rfl) ?_
  intro g297 _ w299 H300 O301; clear H296 O289
  have O302 : Own w w299 [Bk g297 [.string (⟨#[]⟩ : ByteArray), J 0] 49, Bk g2 [.string su, .string bo, .slice A ((Wd ++ [(⟨g0, ⟨A2, xs.length, c2⟩⟩ : W2)]).length) c] 29, Chunk.row kW 53 w.heap.size Sr (.slice A ((Wd ++ [(⟨g0, ⟨A2, xs.length, c2⟩⟩ : W2)]).length) c) (Wd ++ [(⟨g0, ⟨A2, xs.length, c2⟩⟩ : W2)]), Chunk.dn w.heap.size Sd Wd qs, Chunk.row KR 49 w.heap.size Sl (.slice A2 xs.length c2) xs, Bk g8 [.string (⟨#[]⟩ : ByteArray), .string (⟨#[]⟩ : ByteArray), .slice none 0 0] 29] := O301
  clear O301
  refine gw_setn 0 H300 O302 rfl (want_none rfl) rfl (op_storen gwsiz49 rfl (H300.ev rfl) (H300.ev rfl) (O302.get 0 rfl) rfl (by simp) (by simp [Value.oneCell'])) ?_
  intro _ w305 H304 O306; clear H300 O302
  refine Va H304 fun _ H308 => ?_
  refine gE hK269 ?_
  refine gw_seq fun K309 hK309 => ?_
  refine gR fun K310 hK310 => ?_
  refine Vm H308 fun _ H312 => ?_
  refine V H312 (op_not rfl (H312.ev rfl)) fun _ H314 => ?_
  refine Vm H314 fun _ H316 => ?_
  clear H304 H308 H312 H314
  refine gw_evG H316 rfl rfl rfl rfl (on_f _) rfl (by decide) (fun h_ => (op_field (gwfld29_2 _ _) rfl (H316.ev rfl))) ?_
  intro _ H318; clear H316
  refine gw_evG H318 rfl rfl rfl rfl (on_f _) rfl (by decide) (fun h_ => (op_load1 gwagg27 rfl (ev_gv (H318.ev rfl) h_) (blk_at (O306.get 1 rfl) rfl))) ?_
  intro _ H320; clear H318
  refine gw_evG H320 rfl rfl rfl rfl (on_f _) rfl (by decide) (fun h_ => (op_len Tryd.underlying27 rfl (ev_gv (H320.ev rfl) h_))) ?_
  intro _ H322; clear H320
  refine gw_evG H322 rfl rfl rfl rfl (on_f _) rfl (by decide) (fun h_ => (op_eqi rfl (ev_gv (H322.ev rfl) h_) (ev_c _ _))) ?_
  intro _ H324; clear H322
  refine V H324 (op_pick_or rfl (H324.ev rfl) (ev_c _ _) (fun hp_ => (ev_gv (H324.ev rfl) (not_t hp_)))) fun _ H326 => ?_
  refine gE hK310 ?_
  clear H324
  refine gw_cond H326 rfl (fun hb327 => ?_) (fun hb327 => ?_)
  ·
   have H328 := H326.subst_ (d := 49) (b := true) rfl hb327
   clear H326
   (try simp only [Bool.and_eq_true, Bool.and_eq_false_iff, Bool.not_and, Bool.or_eq_true, Bool.or_eq_false_iff, Bool.not_or, Bool.not_not, Bool.not_eq_true', Bool.not_eq_false', Bool.not_eq_true, Bool.not_eq_false, decide_eq_true_eq, decide_eq_false_iff_not] at hb327)
   have hlo : lineO (qs ++ [(⟨g0, xs⟩ : PP)]) (AL.getD i.toNat (⟨#[]⟩ : ByteArray)) = false := by rw [(step_res (qs ++ [(⟨g0, xs⟩ : PP)]) (AL.getD i.toNat (⟨#[]⟩ : ByteArray)) hgn).1]; have hb_ := hb327; revert hb_; cases (resF (AL.getD i.toNat (⟨#[]⟩ : ByteArray)) 7 1).2 <;> simp <;> omega
   refine gR fun K329 hK329 => ?_
   refine V H328 (op_loadn gwagg29 gwsiz29 rfl (H328.ev rfl) (O306.get 1 rfl) rfl rfl) fun _ H331 => ?_
   refine Vm H331 fun _ H333 => ?_
   clear H328 H331
   refine gw_setn 5 H333 O306 rfl (want_none rfl) rfl (op_storen gwsiz29 rfl (H333.ev rfl) (H333.ev rfl) (O306.get 5 rfl) rfl (by simp) (by simp [Value.oneCell'])) ?_
   intro _ w336 H335 O337; clear H333 O306
   refine Va H335 fun _ H339 => ?_
   refine gE hK329 ?_
   refine wp_ret ?_
   clear H335
   refine gw_thr ?_
   refine gw_blr ?_
   refine gw_thr ?_
   refine gw_thr ?_
   refine gw_blr ?_
   refine gw_thr ?_
   refine gw_rets2 H339 rfl (rv_celln H339 rfl gwagg29 gwsiz29 (O337.get 5 rfl) rfl) (rv_tmp H339 rfl) ?_
   have hq : (bodyF (AL.drop 2) 2 []) = ((qs ++ [(⟨g0, xs⟩ : PP)]), i) := by rw [← hB, bodyF_at AL i _ (by omega) (by omega), if_neg (by rw [hlo]; decide)]
   rw [hq]
   have O340_1 := (O337.sel [4, 3, 2] (by decide)).dn_push (gn := g0)
   have O340_2 := (O340_1.sel [1, 0] (by decide)).dn_viewq
   have hl_ : (Wd ++ [(⟨g0, ⟨A2, xs.length, c2⟩⟩ : W2)]).length = ((qs ++ [(⟨g0, xs⟩ : PP)]).map cv).length := by rw [List.length_map, hwl, hql]
   rw [hl_] at O340_2
   exact ⟨_, _, _, by rw [hl_]; rfl, (O340_2.sel [0] (by decide)).out⟩
  have H341 := H326.subst_ (d := 49) (b := false) rfl hb327
  clear H326
  (try simp only [Bool.and_eq_true, Bool.and_eq_false_iff, Bool.not_and, Bool.or_eq_true, Bool.or_eq_false_iff, Bool.not_or, Bool.not_not, Bool.not_eq_true', Bool.not_eq_false', Bool.not_eq_true, Bool.not_eq_false, decide_eq_true_eq, decide_eq_false_iff_not] at hb327)
  have hlo : lineO (qs ++ [(⟨g0, xs⟩ : PP)]) (AL.getD i.toNat (⟨#[]⟩ : ByteArray)) = true := by rw [(step_res (qs ++ [(⟨g0, xs⟩ : PP)]) (AL.getD i.toNat (⟨#[]⟩ : ByteArray)) hgn).1]; have hb_ := hb327; revert hb_; cases (resF (AL.getD i.toNat (⟨#[]⟩ : ByteArray)) 7 1).2 <;> simp <;> omega
  refine gS hK309 ?_
  refine gR fun K342 hK342 => ?_
  refine Vf H341 (gwfld29_2 _ _) fun _ H344 => ?_
  refine Vl H344 gwagg27 (O306.get 1 rfl) fun _ H346 => ?_
  refine Vf H346 (gwfld29_2 _ _) fun _ H348 => ?_
  refine Vl H348 gwagg27 (O306.get 1 rfl) fun _ H350 => ?_
  refine V H350 (op_len Tryd.underlying27 rfl (H350.ev rfl)) fun _ H352 => ?_
  refine V H352 (op_sub rfl (H352.ev rfl) (ev_c _ _) (by omega)) fun _ H354 => ?_
  clear H341 H344 H346 H348 H350 H352
  obtain ⟨ad355, hA356⟩ := row_head (O306.get 2 rfl) ((((Wd ++ [(⟨g0, ⟨A2, xs.length, c2⟩⟩ : W2)]).length) : Int) - 1) (by omega) (by omega)
  subst hA356
  refine V H354 (op_index Tryd.underlying27 gwsiz53 rfl (H354.ev rfl) (H354.ev rfl) rfl (⟨by omega, by omega⟩)) fun _ H359 => ?_
  refine V H359 (op_loadc gwagg53 gwsiz53 rfl (H359.ev rfl) rfl ((rowf_cells (z := zW) (O306.get 2 rfl) ((((Wd ++ [(⟨g0, ⟨A2, xs.length, c2⟩⟩ : W2)]).length) : Int) - 1) (by omega) (by omega) (fun _ _ h_ => kW_open h_)))) fun _ H361 => ?_
  clear H354 H359
  have H362 := H361.conv (v' := .agg #[.string g0, .slice A2 xs.length c2]) (by rw [getD_last _ _ _ rfl])
  clear H361
  refine gw_new H362 O306 (want_none rfl) rfl (by decide) (op_alloc gwzer53 rfl) ?_
  intro g363 _ w365 H366 O367; clear H362 O306
  have O368 : Own w w365 [Bk g363 [.string (⟨#[]⟩ : ByteArray), .slice none 0 0] 53, Bk g297 [.string ((resF (AL.getD i.toNat (⟨#[]⟩ : ByteArray)) 7 1).1.f0), J ((resF (AL.getD i.toNat (⟨#[]⟩ : ByteArray)) 7 1).1.f1)] 49, Bk g2 [.string su, .string bo, .slice (some ad355) ((Wd ++ [(⟨g0, ⟨A2, xs.length, c2⟩⟩ : W2)]).length) c] 29, Chunk.row kW 53 w.heap.size Sr (.slice (some ad355) ((Wd ++ [(⟨g0, ⟨A2, xs.length, c2⟩⟩ : W2)]).length) c) (Wd ++ [(⟨g0, ⟨A2, xs.length, c2⟩⟩ : W2)]), Chunk.dn w.heap.size Sd Wd qs, Chunk.row KR 49 w.heap.size Sl (.slice A2 xs.length c2) xs, Bk g8 [.string (⟨#[]⟩ : ByteArray), .string (⟨#[]⟩ : ByteArray), .slice none 0 0] 29] := O367
  clear O367
  refine gw_setn 0 H366 O368 rfl (want_none rfl) rfl (op_storen gwsiz53 rfl (H366.ev rfl) (H366.ev rfl) (O368.get 0 rfl) rfl (by simp) (by simp [Value.oneCell'])) ?_
  intro _ w371 H370 O372; clear H366 O368
  refine gE hK342 ?_
  refine gR fun K373 hK373 => ?_
  refine Vf H370 (gwfld53_1 _ _) fun _ H375 => ?_
  refine Vl H375 gwagg44 (O372.get 0 rfl) fun _ H377 => ?_
  refine V H377 (op_loadn gwagg49 gwsiz49 rfl (H377.ev rfl) (O372.get 1 rfl) rfl rfl) fun _ H379 => ?_
  clear H370 H375 H377
  refine gw_news (O := .cells #[.string ((resF (AL.getD i.toNat (⟨#[]⟩ : ByteArray)) 7 1).1.f0), J ((resF (AL.getD i.toNat (⟨#[]⟩ : ByteArray)) 7 1).1.f1)] 49 (0, 0)) (n := 1) H379 O372 (want_none rfl) rfl (by decide) (op_bslice (by kernel_rfl) rfl (pt_cons (H379.ev rfl) pt_nil)) ?_
  intro g380 _ w382 H383 O384; clear H379 O372
  have O385 : Own w w382 [Bk g380 [.string ((resF (AL.getD i.toNat (⟨#[]⟩ : ByteArray)) 7 1).1.f0), J ((resF (AL.getD i.toNat (⟨#[]⟩ : ByteArray)) 7 1).1.f1)] 49, Bk g363 [.string g0, .slice A2 xs.length c2] 53, Bk g297 [.string ((resF (AL.getD i.toNat (⟨#[]⟩ : ByteArray)) 7 1).1.f0), J ((resF (AL.getD i.toNat (⟨#[]⟩ : ByteArray)) 7 1).1.f1)] 49, Bk g2 [.string su, .string bo, .slice (some ad355) ((Wd ++ [(⟨g0, ⟨A2, xs.length, c2⟩⟩ : W2)]).length) c] 29, Chunk.row kW 53 w.heap.size Sr (.slice (some ad355) ((Wd ++ [(⟨g0, ⟨A2, xs.length, c2⟩⟩ : W2)]).length) c) (Wd ++ [(⟨g0, ⟨A2, xs.length, c2⟩⟩ : W2)]), Chunk.dn w.heap.size Sd Wd qs, Chunk.row KR 49 w.heap.size Sl (.slice A2 xs.length c2) xs, Bk g8 [.string (⟨#[]⟩ : ByteArray), .string (⟨#[]⟩ : ByteArray), .slice none 0 0] 29] := O384
  clear O384
  have O386 : Own w _ [Chunk.row KR 49 w.heap.size Sl (.slice A2 xs.length c2) xs, Chunk.void, Bk g380 [.string ((resF (AL.getD i.toNat (⟨#[]⟩ : ByteArray)) 7 1).1.f0), J ((resF (AL.getD i.toNat (⟨#[]⟩ : ByteArray)) 7 1).1.f1)] 49, Bk g363 [.string g0, .slice A2 xs.length c2] 53, Bk g297 [.string ((resF (AL.getD i.toNat (⟨#[]⟩ : ByteArray)) 7 1).1.f0), J ((resF (AL.getD i.toNat (⟨#[]⟩ : ByteArray)) 7 1).1.f1)] 49, Bk g2 [.string su, .string bo, .slice (some ad355) ((Wd ++ [(⟨g0, ⟨A2, xs.length, c2⟩⟩ : W2)]).length) c] 29, Chunk.row kW 53 w.heap.size Sr (.slice (some ad355) ((Wd ++ [(⟨g0, ⟨A2, xs.length, c2⟩⟩ : W2)]).length) c) (Wd ++ [(⟨g0, ⟨A2, xs.length, c2⟩⟩ : W2)]), Chunk.dn w.heap.size Sd Wd qs, Bk g8 [.string (⟨#[]⟩ : ByteArray), .string (⟨#[]⟩ : ByteArray), .slice none 0 0] 29] := O385.void.sel [7, 0, 1, 2, 3, 4, 5, 6, 8] (by decide)
  refine gw_append1 k49 0 (p := (⟨(resF (AL.getD i.toNat (⟨#[]⟩ : ByteArray)) 7 1).1.f0, (resF (AL.getD i.toNat (⟨#[]⟩ : ByteArray)) 7 1).1.f1⟩ : S49)) (cs := [.string ((resF (AL.getD i.toNat (⟨#[]⟩ : ByteArray)) 7 1).1.f0), J ((resF (AL.getD i.toNat (⟨#[]⟩ : ByteArray)) 7 1).1.f1)]) H383 O386 (want_none rfl) rfl (by decide) rfl Tryd.underlying44 gwinfo49 rfl (by decide) (by decide) rfl (H383.ev rfl) (H383.ev rfl) (fun w_ h_ => k49_mkM w_ _ _ (⟨(resF (AL.getD i.toNat (⟨#[]⟩ : ByteArray)) 7 1).1.f0, (resF (AL.getD i.toNat (⟨#[]⟩ : ByteArray)) 7 1).1.f1⟩ : S49) ) O386.below.size (by first | omega | (simp; omega)) ?_
  intro A387 c388 S389 _ w391 H392 O393; clear H383 O385 O386
  have O394 : Own w w391 [Chunk.row KR 49 w.heap.size S389 (.slice A387 ((xs ++ [(⟨(resF (AL.getD i.toNat (⟨#[]⟩ : ByteArray)) 7 1).1.f0, (resF (AL.getD i.toNat (⟨#[]⟩ : ByteArray)) 7 1).1.f1⟩ : S49)]).length) c388) (xs ++ [(⟨(resF (AL.getD i.toNat (⟨#[]⟩ : ByteArray)) 7 1).1.f0, (resF (AL.getD i.toNat (⟨#[]⟩ : ByteArray)) 7 1).1.f1⟩ : S49)]), Bk g380 [.string ((resF (AL.getD i.toNat (⟨#[]⟩ : ByteArray)) 7 1).1.f0), J ((resF (AL.getD i.toNat (⟨#[]⟩ : ByteArray)) 7 1).1.f1)] 49, Bk g363 [.string g0, .slice A2 xs.length c2] 53, Bk g297 [.string ((resF (AL.getD i.toNat (⟨#[]⟩ : ByteArray)) 7 1).1.f0), J ((resF (AL.getD i.toNat (⟨#[]⟩ : ByteArray)) 7 1).1.f1)] 49, Bk g2 [.string su, .string bo, .slice (some ad355) ((Wd ++ [(⟨g0, ⟨A2, xs.length, c2⟩⟩ : W2)]).length) c] 29, Chunk.row kW 53 w.heap.size Sr (.slice (some ad355) ((Wd ++ [(⟨g0, ⟨A2, xs.length, c2⟩⟩ : W2)]).length) c) (Wd ++ [(⟨g0, ⟨A2, xs.length, c2⟩⟩ : W2)]), Chunk.dn w.heap.size Sd Wd qs, Bk g8 [.string (⟨#[]⟩ : ByteArray), .string (⟨#[]⟩ : ByteArray), .slice none 0 0] 29] := O393
  clear O393
  refine Vf H392 (gwfld53_1 _ _) fun _ H396 => ?_
  clear H392
  refine gw_set 2 H396 O394 rfl (want_none rfl) rfl (op_store1 gwsiz44 rfl (H396.ev rfl) (H396.ev rfl) rfl (blk_at (O394.get 2 rfl) rfl) (blkf (O394.get 2 rfl))) ?_
  intro _ w399 H398 O400; clear H396 O394
  refine gE hK373 ?_
  refine gx_draw (M := [Chunk.row KR 49 w.heap.size S389 (.slice A387 ((xs ++ [(⟨(resF (AL.getD i.toNat (⟨#[]⟩ : ByteArray)) 7 1).1.f0, (resF (AL.getD i.toNat (⟨#[]⟩ : ByteArray)) 7 1).1.f1⟩ : S49)]).length) c388) (xs ++ [(⟨(resF (AL.getD i.toNat (⟨#[]⟩ : ByteArray)) 7 1).1.f0, (resF (AL.getD i.toNat (⟨#[]⟩ : ByteArray)) 7 1).1.f1⟩ : S49)]), Bk g380 [.string ((resF (AL.getD i.toNat (⟨#[]⟩ : ByteArray)) 7 1).1.f0), J ((resF (AL.getD i.toNat (⟨#[]⟩ : ByteArray)) 7 1).1.f1)] 49, Bk g363 [.string g0, .slice A387 ((xs ++ [(⟨(resF (AL.getD i.toNat (⟨#[]⟩ : ByteArray)) 7 1).1.f0, (resF (AL.getD i.toNat (⟨#[]⟩ : ByteArray)) 7 1).1.f1⟩ : S49)]).length) c388] 53, Bk g297 [.string ((resF (AL.getD i.toNat (⟨#[]⟩ : ByteArray)) 7 1).1.f0), J ((resF (AL.getD i.toNat (⟨#[]⟩ : ByteArray)) 7 1).1.f1)] 49, Bk g2 [.string su, .string bo, .slice (some ad355) ((Wd ++ [(⟨g0, ⟨A2, xs.length, c2⟩⟩ : W2)]).length) c] 29, Chunk.dn w.heap.size Sd Wd qs, Bk g8 [.string (⟨#[]⟩ : ByteArray), .string (⟨#[]⟩ : ByteArray), .slice none 0 0] 29]) (fun j_ => j_ == 11) O400 (by kernel_rfl) fun w401 O402 => ?_
  clear O400
  refine gx_take 0 rfl (by kernel_rfl) H398 (by exact O402.sel [0, 1, 2, 3, 4, 6, 7] (by decide)) (want_none rfl) rfl (by decide) (fun wq HO => (op_field (gwfld29_2 _ _) rfl (H398.ev rfl))) ?_
  intro _ H404; clear H398
  refine gx_take 1 rfl (by kernel_rfl) H404 (by exact O402.sel [0, 1, 2, 3, 4, 6, 7] (by decide)) (want_none rfl) rfl (by decide) (fun wq HO => (op_load1 gwagg27 rfl (H404.ev rfl) (blk_at (HO.get 4 rfl) rfl))) ?_
  intro _ H406; clear H404
  refine gx_take 2 rfl (by kernel_rfl) H406 (by exact O402.sel [0, 1, 2, 3, 4, 6, 7] (by decide)) (want_none rfl) rfl (by decide) (fun wq HO => (op_field (gwfld29_2 _ _) rfl (H406.ev rfl))) ?_
  intro _ H408; clear H406
  refine gx_take 3 rfl (by kernel_rfl) H408 (by exact O402.sel [0, 1, 2, 3, 4, 6, 7] (by decide)) (want_none rfl) rfl (by decide) (fun wq HO => (op_load1 gwagg27 rfl (H408.ev rfl) (blk_at (HO.get 4 rfl) rfl))) ?_
  intro _ H410; clear H408
  refine gx_take 4 rfl (by kernel_rfl) H410 (by exact O402.sel [0, 1, 2, 3, 4, 6, 7] (by decide)) (want_none rfl) rfl (by decide) (fun wq HO => (op_len Tryd.underlying27 rfl (H410.ev rfl))) ?_
  intro _ H412; clear H410
  refine gx_take 5 rfl (by kernel_rfl) H412 (by exact O402.sel [0, 1, 2, 3, 4, 6, 7] (by decide)) (want_none rfl) rfl (by decide) (fun wq HO => (op_sub rfl (H412.ev rfl) (ev_c _ _) (by omega))) ?_
  intro _ H414; clear H412
  obtain ⟨hr415, hc416, hC417⟩ := cut_hi (P := Tryd.prog) (d := kW) (t := 27) (e := 53) Tryd.underlying27 gwsiz53 (some ad355) c (Wd ++ [(⟨g0, ⟨A2, xs.length, c2⟩⟩ : W2)]) hcap ((((Wd ++ [(⟨g0, ⟨A2, xs.length, c2⟩⟩ : W2)]).length) : Int) - 1) (by omega) (by omega)
  refine gx_take 6 rfl (by kernel_rfl) H414 (by exact O402.sel [0, 1, 2, 3, 4, 6, 7] (by decide)) (want_none rfl) rfl (by decide) (fun wq HO => (op_cut Tryd.underlying27 hr415 rfl (H414.ev rfl) rfl (some_ev (H414.ev rfl)))) ?_
  intro _ H419; clear H414
  refine gx_take 7 rfl (by kernel_rfl) H419 (by exact O402.sel [0, 1, 2, 3, 4, 6, 7] (by decide)) (want_none rfl) rfl (by decide) (fun wq HO => (op_loadn gwagg53 gwsiz53 rfl (H419.ev rfl) (HO.get 2 rfl) rfl rfl)) ?_
  intro _ H421; clear H419
  refine gx_step 8 rfl (by kernel_rfl) ?_
  refine gw_news (O := .cells #[.string g0, .slice A387 ((xs ++ [(⟨(resF (AL.getD i.toNat (⟨#[]⟩ : ByteArray)) 7 1).1.f0, (resF (AL.getD i.toNat (⟨#[]⟩ : ByteArray)) 7 1).1.f1⟩ : S49)]).length) c388] 53 (0, 0)) (n := 1) H421 O402 (want_none rfl) rfl (by decide) (op_bslice (by kernel_rfl) rfl (pt_cons (H421.ev rfl) pt_nil)) ?_
  intro g422 _ w424 H425 O426; clear H421 O402
  have O427 : Own w w424 [Bk g422 [.string g0, .slice A387 ((xs ++ [(⟨(resF (AL.getD i.toNat (⟨#[]⟩ : ByteArray)) 7 1).1.f0, (resF (AL.getD i.toNat (⟨#[]⟩ : ByteArray)) 7 1).1.f1⟩ : S49)]).length) c388] 53, Chunk.row KR 49 w.heap.size S389 (.slice A387 ((xs ++ [(⟨(resF (AL.getD i.toNat (⟨#[]⟩ : ByteArray)) 7 1).1.f0, (resF (AL.getD i.toNat (⟨#[]⟩ : ByteArray)) 7 1).1.f1⟩ : S49)]).length) c388) (xs ++ [(⟨(resF (AL.getD i.toNat (⟨#[]⟩ : ByteArray)) 7 1).1.f0, (resF (AL.getD i.toNat (⟨#[]⟩ : ByteArray)) 7 1).1.f1⟩ : S49)]), Bk g380 [.string ((resF (AL.getD i.toNat (⟨#[]⟩ : ByteArray)) 7 1).1.f0), J ((resF (AL.getD i.toNat (⟨#[]⟩ : ByteArray)) 7 1).1.f1)] 49, Bk g363 [.string g0, .slice A387 ((xs ++ [(⟨(resF (AL.getD i.toNat (⟨#[]⟩ : ByteArray)) 7 1).1.f0, (resF (AL.getD i.toNat (⟨#[]⟩ : ByteArray)) 7 1).1.f1⟩ : S49)]).length) c388] 53, Bk g297 [.string ((resF (AL.getD i.toNat (⟨#[]⟩ : ByteArray)) 7 1).1.f0), J ((resF (AL.getD i.toNat (⟨#[]⟩ : ByteArray)) 7 1).1.f1)] 49, Bk g2 [.string su, .string bo, .slice (some ad355) ((Wd ++ [(⟨g0, ⟨A2, xs.length, c2⟩⟩ : W2)]).length) c] 29, Chunk.row kW 53 w.heap.size Sr (.slice (some ad355) ((Wd ++ [(⟨g0, ⟨A2, xs.length, c2⟩⟩ : W2)]).length) c) (Wd ++ [(⟨g0, ⟨A2, xs.length, c2⟩⟩ : W2)]), Chunk.dn w.heap.size Sd Wd qs, Bk g8 [.string (⟨#[]⟩ : ByteArray), .string (⟨#[]⟩ : ByteArray), .slice none 0 0] 29] := O426
  clear O426
  refine gx_on (i := 8) (B := (fun j_ => j_ == 11)) (fun _ => (by exact O427.sel [1, 2, 3, 4, 5, 7, 8] (by decide))) ?_
  refine gx_step 9 rfl (by kernel_rfl) ?_
  have O428 := O427.cut_row 6 rfl (((((Wd ++ [(⟨g0, ⟨A2, xs.length, c2⟩⟩ : W2)]).length) : Int) - 1).toNat) (by omega)
  clear O427
  have O429 : Own w w424 [Bk g422 [.string g0, .slice A387 ((xs ++ [(⟨(resF (AL.getD i.toNat (⟨#[]⟩ : ByteArray)) 7 1).1.f0, (resF (AL.getD i.toNat (⟨#[]⟩ : ByteArray)) 7 1).1.f1⟩ : S49)]).length) c388] 53, Chunk.row KR 49 w.heap.size S389 (.slice A387 ((xs ++ [(⟨(resF (AL.getD i.toNat (⟨#[]⟩ : ByteArray)) 7 1).1.f0, (resF (AL.getD i.toNat (⟨#[]⟩ : ByteArray)) 7 1).1.f1⟩ : S49)]).length) c388) (xs ++ [(⟨(resF (AL.getD i.toNat (⟨#[]⟩ : ByteArray)) 7 1).1.f0, (resF (AL.getD i.toNat (⟨#[]⟩ : ByteArray)) 7 1).1.f1⟩ : S49)]), Bk g380 [.string ((resF (AL.getD i.toNat (⟨#[]⟩ : ByteArray)) 7 1).1.f0), J ((resF (AL.getD i.toNat (⟨#[]⟩ : ByteArray)) 7 1).1.f1)] 49, Bk g363 [.string g0, .slice A387 ((xs ++ [(⟨(resF (AL.getD i.toNat (⟨#[]⟩ : ByteArray)) 7 1).1.f0, (resF (AL.getD i.toNat (⟨#[]⟩ : ByteArray)) 7 1).1.f1⟩ : S49)]).length) c388] 53, Bk g297 [.string ((resF (AL.getD i.toNat (⟨#[]⟩ : ByteArray)) 7 1).1.f0), J ((resF (AL.getD i.toNat (⟨#[]⟩ : ByteArray)) 7 1).1.f1)] 49, Bk g2 [.string su, .string bo, .slice (some ad355) ((Wd ++ [(⟨g0, ⟨A2, xs.length, c2⟩⟩ : W2)]).length) c] 29, Chunk.row kW 53 w.heap.size Sr (.slice (some ad355) (((Wd ++ [(⟨g0, ⟨A2, xs.length, c2⟩⟩ : W2)]).take ((((Wd ++ [(⟨g0, ⟨A2, xs.length, c2⟩⟩ : W2)]).length) : Int) - 1).toNat).length) c) ((Wd ++ [(⟨g0, ⟨A2, xs.length, c2⟩⟩ : W2)]).take ((((Wd ++ [(⟨g0, ⟨A2, xs.length, c2⟩⟩ : W2)]).length) : Int) - 1).toNat), Chunk.dn w.heap.size Sd Wd qs, Bk g8 [.string (⟨#[]⟩ : ByteArray), .string (⟨#[]⟩ : ByteArray), .slice none 0 0] 29] := O428
  clear O428
  have O430 : Own w _ [Chunk.row kW 53 w.heap.size Sr (.slice (some ad355) (((Wd ++ [(⟨g0, ⟨A2, xs.length, c2⟩⟩ : W2)]).take ((((Wd ++ [(⟨g0, ⟨A2, xs.length, c2⟩⟩ : W2)]).length) : Int) - 1).toNat).length) c) ((Wd ++ [(⟨g0, ⟨A2, xs.length, c2⟩⟩ : W2)]).take ((((Wd ++ [(⟨g0, ⟨A2, xs.length, c2⟩⟩ : W2)]).length) : Int) - 1).toNat), Chunk.void, Bk g422 [.string g0, .slice A387 ((xs ++ [(⟨(resF (AL.getD i.toNat (⟨#[]⟩ : ByteArray)) 7 1).1.f0, (resF (AL.getD i.toNat (⟨#[]⟩ : ByteArray)) 7 1).1.f1⟩ : S49)]).length) c388] 53, Chunk.row KR 49 w.heap.size S389 (.slice A387 ((xs ++ [(⟨(resF (AL.getD i.toNat (⟨#[]⟩ : ByteArray)) 7 1).1.f0, (resF (AL.getD i.toNat (⟨#[]⟩ : ByteArray)) 7 1).1.f1⟩ : S49)]).length) c388) (xs ++ [(⟨(resF (AL.getD i.toNat (⟨#[]⟩ : ByteArray)) 7 1).1.f0, (resF (AL.getD i.toNat (⟨#[]⟩ : ByteArray)) 7 1).1.f1⟩ : S49)]), Bk g380 [.string ((resF (AL.getD i.toNat (⟨#[]⟩ : ByteArray)) 7 1).1.f0), J ((resF (AL.getD i.toNat (⟨#[]⟩ : ByteArray)) 7 1).1.f1)] 49, Bk g363 [.string g0, .slice A387 ((xs ++ [(⟨(resF (AL.getD i.toNat (⟨#[]⟩ : ByteArray)) 7 1).1.f0, (resF (AL.getD i.toNat (⟨#[]⟩ : ByteArray)) 7 1).1.f1⟩ : S49)]).length) c388] 53, Bk g297 [.string ((resF (AL.getD i.toNat (⟨#[]⟩ : ByteArray)) 7 1).1.f0), J ((resF (AL.getD i.toNat (⟨#[]⟩ : ByteArray)) 7 1).1.f1)] 49, Bk g2 [.string su, .string bo, .slice (some ad355) ((Wd ++ [(⟨g0, ⟨A2, xs.length, c2⟩⟩ : W2)]).length) c] 29, Chunk.dn w.heap.size Sd Wd qs, Bk g8 [.string (⟨#[]⟩ : ByteArray), .string (⟨#[]⟩ : ByteArray), .slice none 0 0] 29] := O429.void.sel [7, 0, 1, 2, 3, 4, 5, 6, 8, 9] (by decide)
  refine gw_append1 kW 0 (p := (⟨g0, ⟨A387, (xs ++ [(⟨(resF (AL.getD i.toNat (⟨#[]⟩ : ByteArray)) 7 1).1.f0, (resF (AL.getD i.toNat (⟨#[]⟩ : ByteArray)) 7 1).1.f1⟩ : S49)]).length, c388⟩⟩ : W2)) (cs := [.string g0, .slice A387 ((xs ++ [(⟨(resF (AL.getD i.toNat (⟨#[]⟩ : ByteArray)) 7 1).1.f0, (resF (AL.getD i.toNat (⟨#[]⟩ : ByteArray)) 7 1).1.f1⟩ : S49)]).length) c388]) H425 O430 (want_none rfl) rfl (by decide) rfl Tryd.underlying27 gwinfo53 rfl (by decide) (by decide) rfl (H425.ev rfl) (H425.ev rfl) (fun w_ h_ => kW_mkM w_ _ _ (⟨g0, ⟨A387, (xs ++ [(⟨(resF (AL.getD i.toNat (⟨#[]⟩ : ByteArray)) 7 1).1.f0, (resF (AL.getD i.toNat (⟨#[]⟩ : ByteArray)) 7 1).1.f1⟩ : S49)]).length, c388⟩⟩ : W2) ) O430.below.size (by (try rw [List.length_take, hwl]); omega) ?_
  intro A431 c432 S433 _ w435 H436 O437; clear H425 O429 O430
  have O438 : Own w w435 [Chunk.row kW 53 w.heap.size S433 (.slice A431 ((((Wd ++ [(⟨g0, ⟨A2, xs.length, c2⟩⟩ : W2)]).take ((((Wd ++ [(⟨g0, ⟨A2, xs.length, c2⟩⟩ : W2)]).length) : Int) - 1).toNat) ++ [(⟨g0, ⟨A387, (xs ++ [(⟨(resF (AL.getD i.toNat (⟨#[]⟩ : ByteArray)) 7 1).1.f0, (resF (AL.getD i.toNat (⟨#[]⟩ : ByteArray)) 7 1).1.f1⟩ : S49)]).length, c388⟩⟩ : W2)]).length) c432) (((Wd ++ [(⟨g0, ⟨A2, xs.length, c2⟩⟩ : W2)]).take ((((Wd ++ [(⟨g0, ⟨A2, xs.length, c2⟩⟩ : W2)]).length) : Int) - 1).toNat) ++ [(⟨g0, ⟨A387, (xs ++ [(⟨(resF (AL.getD i.toNat (⟨#[]⟩ : ByteArray)) 7 1).1.f0, (resF (AL.getD i.toNat (⟨#[]⟩ : ByteArray)) 7 1).1.f1⟩ : S49)]).length, c388⟩⟩ : W2)]), Bk g422 [.string g0, .slice A387 ((xs ++ [(⟨(resF (AL.getD i.toNat (⟨#[]⟩ : ByteArray)) 7 1).1.f0, (resF (AL.getD i.toNat (⟨#[]⟩ : ByteArray)) 7 1).1.f1⟩ : S49)]).length) c388] 53, Chunk.row KR 49 w.heap.size S389 (.slice A387 ((xs ++ [(⟨(resF (AL.getD i.toNat (⟨#[]⟩ : ByteArray)) 7 1).1.f0, (resF (AL.getD i.toNat (⟨#[]⟩ : ByteArray)) 7 1).1.f1⟩ : S49)]).length) c388) (xs ++ [(⟨(resF (AL.getD i.toNat (⟨#[]⟩ : ByteArray)) 7 1).1.f0, (resF (AL.getD i.toNat (⟨#[]⟩ : ByteArray)) 7 1).1.f1⟩ : S49)]), Bk g380 [.string ((resF (AL.getD i.toNat (⟨#[]⟩ : ByteArray)) 7 1).1.f0), J ((resF (AL.getD i.toNat (⟨#[]⟩ : ByteArray)) 7 1).1.f1)] 49, Bk g363 [.string g0, .slice A387 ((xs ++ [(⟨(resF (AL.getD i.toNat (⟨#[]⟩ : ByteArray)) 7 1).1.f0, (resF (AL.getD i.toNat (⟨#[]⟩ : ByteArray)) 7 1).1.f1⟩ : S49)]).length) c388] 53, Bk g297 [.string ((resF (AL.getD i.toNat (⟨#[]⟩ : ByteArray)) 7 1).1.f0), J ((resF (AL.getD i.toNat (⟨#[]⟩ : ByteArray)) 7 1).1.f1)] 49, Bk g2 [.string su, .string bo, .slice (some ad355) ((Wd ++ [(⟨g0, ⟨A2, xs.length, c2⟩⟩ : W2)]).length) c] 29, Chunk.dn w.heap.size Sd Wd qs, Bk g8 [.string (⟨#[]⟩ : ByteArray), .string (⟨#[]⟩ : ByteArray), .slice none 0 0] 29] := O437
  clear O437
  refine gx_on (i := 9) (B := (fun j_ => j_ == 11)) (fun _ => (by exact O438.sel [2, 3, 4, 5, 6, 7, 8] (by decide))) ?_
  refine gx_take 10 rfl (by kernel_rfl) H436 (by exact O438.sel [2, 3, 4, 5, 6, 7, 8] (by decide)) (want_none rfl) rfl (by decide) (fun wq HO => (op_field (gwfld29_2 _ _) rfl (H436.ev rfl))) ?_
  intro _ H440; clear H436
  refine gx_step 11 rfl (by kernel_rfl) ?_
  refine gw_set 6 H440 O438 rfl (want_none rfl) rfl (op_store1 gwsiz27 rfl (H440.ev rfl) (H440.ev rfl) rfl (blk_at (O438.get 6 rfl) rfl) (blkf (O438.get 6 rfl))) ?_
  intro _ w443 H442 O444; clear H440 O438
  refine gx_on (i := 11) (B := (fun j_ => j_ == 11)) (fun h_ => by cases h_) ?_
  refine gx_done (by kernel_rfl) ?_
  refine gw_blk ?_
  refine gw_nx (hK191 _ _ ?_)
  refine wp_region_lit ?_
  refine Vm H442 fun _ H446 => ?_
  refine V H446 (op_add rfl (H446.ev rfl) (ev_c _ _) (by omega)) fun _ H448 => ?_
  refine Va H448 fun _ H450 => ?_
  clear H442 H446 H448
  refine wpList_nil ?_
  have O451_1 := O444.sel [6, 0, 7, 2, 1, 3, 4, 5, 8] (by decide)
  rw [take_last _ _ _ rfl] at O451_1
  obtain ⟨S452, O451⟩ := spq_back O451_1
  clear O444
  refine gw_nx ⟨_, ?_, i + 1, (qs ++ [(⟨g0, (xs ++ [(⟨(resF (AL.getD i.toNat (⟨#[]⟩ : ByteArray)) 7 1).1.f0, (resF (AL.getD i.toNat (⟨#[]⟩ : ByteArray)) 7 1).1.f1⟩ : S49)])⟩ : PP)]), A431, c432, S452, (H450.pick (t := 6) rfl (H450.pick (t := 1) rfl (H450.pick (t := 2) rfl (H450.pick (t := 4) rfl H450.nil)))), O451.sel [1, 6, 0] (by decide), ?_, ?_, ?_, rfl⟩
  ·
   rw [hm28]; omega
  ·
   omega
  ·
   have e_ : lineS (qs ++ [(⟨g0, xs⟩ : PP)]) (AL.getD i.toNat (⟨#[]⟩ : ByteArray)) = (qs ++ [(⟨g0, (xs ++ [(⟨(resF (AL.getD i.toNat (⟨#[]⟩ : ByteArray)) 7 1).1.f0, (resF (AL.getD i.toNat (⟨#[]⟩ : ByteArray)) 7 1).1.f1⟩ : S49)])⟩ : PP)]) := (by rw [(step_res (qs ++ [(⟨g0, xs⟩ : PP)]) (AL.getD i.toNat (⟨#[]⟩ : ByteArray)) hgn).2 hlo, addL_snoc]); have h_ := line_count (qs ++ [(⟨g0, xs⟩ : PP)]) (AL.getD i.toNat (⟨#[]⟩ : ByteArray)) hlo; rw [e_] at h_; omega
  have e_ : lineS (qs ++ [(⟨g0, xs⟩ : PP)]) (AL.getD i.toNat (⟨#[]⟩ : ByteArray)) = (qs ++ [(⟨g0, (xs ++ [(⟨(resF (AL.getD i.toNat (⟨#[]⟩ : ByteArray)) 7 1).1.f0, (resF (AL.getD i.toNat (⟨#[]⟩ : ByteArray)) 7 1).1.f1⟩ : S49)])⟩ : PP)]) := (by rw [(step_res (qs ++ [(⟨g0, xs⟩ : PP)]) (AL.getD i.toNat (⟨#[]⟩ : ByteArray)) hgn).2 hlo, addL_snoc]); rw [← hB, bodyF_at AL i _ (by omega) (by omega), if_pos hlo, e_]
 have H453 := H38.subst_ (d := 15) (b := false) rfl hb39
 clear H38
 (try simp only [decide_eq_false_iff_not, Int.not_lt] at hb39)
 refine wp_exit ?_
 refine gw_thx ?_
 refine gw_thx ?_
 refine gw_in ?_
 refine gw_nx (hK16 _ _ ?_)
 refine gR fun K454 hK454 => ?_
 refine V H453 (op_loadn gwagg29 gwsiz29 rfl (H453.ev rfl) (O27.get 2 rfl) rfl rfl) fun _ H456 => ?_
 refine Vm H456 fun _ H458 => ?_
 refine V H458 (op_len Tryd.underlying58 rfl (H458.ev rfl)) fun _ H460 => ?_
 clear H453 H456 H458
 refine gw_setn 1 H460 O27 rfl (want_none rfl) rfl (op_storen gwsiz29 rfl (H460.ev rfl) (H460.ev rfl) (O27.get 1 rfl) rfl (by simp) (by simp [Value.oneCell'])) ?_
 intro _ w463 H462 O464; clear H460 O27
 refine Va H462 fun _ H466 => ?_
 refine gE hK454 ?_
 refine wp_ret ?_
 clear H462
 refine gw_rets2 H466 rfl (rv_celln H466 rfl gwagg29 gwsiz29 (O464.get 1 rfl) rfl) (rv_tmp H466 rfl) ?_
 have hi2 : i = (AL.length : Int) := by omega
 have hq : (bodyF (AL.drop 2) 2 []) = (ps, i) := by rw [← hB, List.drop_eq_nil_of_le (by omega)]; rfl
 rw [hq]
 have O467_1 := O464.spq_viewq (i := 0) rfl
 have hl_ : ps.length = (ps.map cv).length := (List.length_map ..).symm
 rw [hl_] at O467_1
 exact ⟨_, _, _, by rw [← hl_, hi2]; rfl, (O467_1.sel [0] (by decide)).out⟩
end GBody_
export GBody_ (body_calls)
section
section
variable {LS : List ByteArray} {rem su bo : ByteArray} {en : Bool} {j : Int}
theorem rem_yes (h : rem = eB) : ((LS ++ remL rem).length : Int) = (LS.length : Int) := by unfold remL; rw [if_pos h, List.append_nil]
theorem rem_no (h : ¬ rem = eB) : ((LS ++ remL rem).length : Int) - 1 = (LS.length : Int) := by
  unfold remL
  rw [if_neg h, List.length_append, List.length_singleton]
  omega
theorem rem_le (LS : List ByteArray) (rem : ByteArray) : LS.length ≤ (LS ++ remL rem).length ∧ (LS ++ remL rem).length ≤ LS.length + 1 := by
  rw [List.length_append]
  unfold remL
  split <;> simp
theorem getD_rem (LS : List ByteArray) (rem : ByteArray) (i : Int) (h0 : 0 ≤ i) (h : i < LS.length) : (LS ++ remL rem).getD i.toNat eB = LS.getD i.toNat eB := by
  rw [List.getD_eq_getElem?_getD, List.getD_eq_getElem?_getD, List.getElem?_append_left (by omega)]
theorem take_rem (LS : List ByteArray) (rem : ByteArray) : (LS ++ remL rem).take (LS.length : Int).toNat = LS := by rw [Int.toNat_natCast, List.take_left]
theorem take_rem_C {w : World} {A : Option Addr} (h : Kd.C Kd.string w A ((LS ++ remL rem).take (LS.length : Int).toNat).length ((LS ++ remL rem).take (LS.length : Int).toNat)) : Kd.C Kd.string w A LS.length LS := by
  rw [take_rem] at h
  exact h
theorem line_le (LS : List ByteArray) (rem : ByteArray) (i : Nat) : (LS.getD i eB).size ≤ (catL LS ++ rem).size := by
  rw [size_cat]
  have h : ∀ (LS : List ByteArray) (i : Nat), (LS.getD i eB).size ≤ (catL LS).size := by
    intro LS
    induction LS with
    | nil => intro i; exact Nat.zero_le _
    | cons x xs ih =>
      intro i
      have e : (catL (x :: xs)).size = x.size + 1 + (catL xs).size := by
        show ((x ++ lfB) ++ catL xs).size = _
        rw [size_cat, size_cat]
        rfl
      rw [e]
      cases i with
      | zero =>
        show x.size ≤ _
        omega
      | succ i =>
        have := ih i
        show (xs.getD i eB).size ≤ _
        omega
  have := h LS i
  omega
noncomputable abbrev bfL (LS : List ByteArray) : List PP × Int := bodyF (LS.drop 2) 2 []
theorem bfL_b (LS : List ByteArray) (h : 2 ≤ LS.length) : 2 ≤ (bfL LS).2 ∧ (bfL LS).2 ≤ LS.length ∧ (bfL LS).2 = 2 + ((bfL LS).1.length : Int) + sumL (bfL LS).1 := by
  have this : 2 ≤ (bfL LS).2 ∧ (bfL LS).2 ≤ 2 + ((LS.drop 2).length : Int) ∧ (bfL LS).2 = 2 + ((bfL LS).1.length : Int) + sumL (bfL LS).1 := bodyF_b (LS.drop 2) 2 [] (by simp [sumL])
  rw [List.length_drop] at this
  exact ⟨this.1, by omega, this.2.2⟩
theorem rp_a (h : (LS.length : Int) ≤ 0) : refP LS en = (none, 0) := by unfold refP; rw [if_pos (by omega)]
theorem rp_b (h : 1 ≤ LS.length) (hn : nmO (LS.getD 0 eB) w1B = false) : refP LS en = (none, 0) := by unfold refP; rw [if_neg (by omega), if_pos hn]
theorem rp_c (h1 : 1 ≤ LS.length) (h : (LS.length : Int) ≤ 1) (hn : nmO (LS.getD 0 eB) w1B = true) : refP LS en = (none, 1) := by unfold refP; rw [if_neg (by omega), if_neg (by rw [hn]; decide), if_pos (by omega)]
theorem rp_d (h : 2 ≤ LS.length) (hn : nmO (LS.getD 0 eB) w1B = true) (h1 : nmO (LS.getD 1 eB) w2B = false) : refP LS en = (none, 1) := by unfold refP; rw [if_neg (by omega), if_neg (by rw [hn]; decide), if_neg (by omega), if_pos h1]
theorem rp_q (h : 2 ≤ LS.length) (hn : nmO (LS.getD 0 eB) w1B = true) (h1 : nmO (LS.getD 1 eB) w2B = true) (hs : su = nmB (LS.getD 0 eB) w1B) (hb : bo = nmB (LS.getD 1 eB) w2B) : refP LS en = if (bfL LS).2 = (LS.length : Int) then (none, (LS.length : Int)) else
    match cmpF (LS.drop (bfL LS).2.toNat) ((linesL su bo (bfL LS).1).drop (bfL LS).2.toNat) (bfL LS).2 with
    | some i => (none, i)
    | none => if (LS.length < (linesL su bo (bfL LS).1).length) ∨ en = false then (none, (LS.length : Int)) else (some (su, bo, (bfL LS).1), 0) := by
  unfold refP
  rw [if_neg (by omega), if_neg (by rw [hn]; decide), if_neg (by omega), if_neg (by rw [h1]; decide), hs, hb] <;> rfl
theorem rp_e (h : 2 ≤ LS.length) (hn : nmO (LS.getD 0 eB) w1B = true) (h1 : nmO (LS.getD 1 eB) w2B = true) (hs : su = nmB (LS.getD 0 eB) w1B) (hb : bo = nmB (LS.getD 1 eB) w2B) (he : (bfL LS).2 = (LS.length : Int)) : refP LS en = (none, (LS.length : Int)) := by rw [rp_q h hn h1 hs hb, if_pos he]
theorem rp_f (h : 2 ≤ LS.length) (hn : nmO (LS.getD 0 eB) w1B = true) (h1 : nmO (LS.getD 1 eB) w2B = true) (hs : su = nmB (LS.getD 0 eB) w1B) (hb : bo = nmB (LS.getD 1 eB) w2B) (he : ¬ (bfL LS).2 = (LS.length : Int)) (hc : cmpF (LS.drop (bfL LS).2.toNat) ((linesL su bo (bfL LS).1).drop (bfL LS).2.toNat) (bfL LS).2 = some j) : refP LS en = (none, j) := by rw [rp_q h hn h1 hs hb, if_neg he, hc]
theorem rp_g (h : 2 ≤ LS.length) (hn : nmO (LS.getD 0 eB) w1B = true) (h1 : nmO (LS.getD 1 eB) w2B = true) (hs : su = nmB (LS.getD 0 eB) w1B) (hb : bo = nmB (LS.getD 1 eB) w2B) (he : ¬ (bfL LS).2 = (LS.length : Int)) (hc : cmpF (LS.drop (bfL LS).2.toNat) ((linesL su bo (bfL LS).1).drop (bfL LS).2.toNat) (bfL LS).2 = none) (hg : (LS.length < (linesL su bo (bfL LS).1).length) ∨ en = false) : refP LS en = (none, (LS.length : Int)) := by
  rw [rp_q h hn h1 hs hb, if_neg he, hc]
  exact if_pos hg
theorem rp_h (h : 2 ≤ LS.length) (hn : nmO (LS.getD 0 eB) w1B = true) (h1 : nmO (LS.getD 1 eB) w2B = true) (hs : su = nmB (LS.getD 0 eB) w1B) (hb : bo = nmB (LS.getD 1 eB) w2B) (he : ¬ (bfL LS).2 = (LS.length : Int)) (hc : cmpF (LS.drop (bfL LS).2.toNat) ((linesL su bo (bfL LS).1).drop (bfL LS).2.toNat) (bfL LS).2 = none) (hg : ¬ ((LS.length < (linesL su bo (bfL LS).1).length) ∨ en = false)) : refP LS en = (some (su, bo, (bfL LS).1), 0) := by
  rw [rp_q h hn h1 hs hb, if_neg he, hc]
  exact if_neg hg
end
theorem out_sz (LS : List ByteArray) (rem : ByteArray) (h : ∀ x ∈ LS, (10 : UInt8) ∉ x.data.toList) (hr : (10 : UInt8) ∉ rem.data.toList) (hs : (catL LS ++ rem).size ≤ 100000000) : szP (outS (catL LS ++ rem)).2.2 := by
  unfold outS
  rw [parse_ref LS rem h hr]
  cases hq : refP LS (decide (rem = eB)) with
  | mk o i =>
    cases o with
    | none => exact szP_few [] (by decide)
    | some R =>
      have h1 := ref_few LS _ R i hq
      have h2 := lines_count LS rem
      exact szP_few _ (by show R.2.2.length + sumL R.2.2 ≤ _; omega)
end
section
section
variable {D : List Deferred} {P : Program} {ops : Array Oper} {Q : Exit → Act → World → Prop} {B : Nat → Bool} {a : Act} {w0 w : World} {M : List Chunk} {o1 o2 o3 o4 : Oper}
theorem gx_ways {fuel : Nat} {listed : Array Bool} (l : List Nat) (hr : Region.ready .any ops listed = l) (h0 : l ≠ [])
    (h : ∀ i ∈ l, wpOp P ops (NoPanic Q) i (fun a' w' => (B i = false → Held w0 M w') ∧ wpX P .any ops (NoPanic Q) (Held w0 M) B fuel (listed.setIfInBounds i true) a' w') a w) : wpX P .any ops (NoPanic Q) (Held w0 M) B (fuel + 1) listed a w :=
  ⟨fun h1 => absurd (hr.symm.trans h1) h0, fun k hk => h k (by rw [hr] at hk; exact hk)⟩
theorem gx_two {fuel : Nat} {listed : Array Bool} (i j : Nat) (h1 : ops[i]? = some o1) (h2 : ops[j]? = some o2) (hr : Region.ready .any ops listed = [i, j])
    (k1 : wpList P ops (Patch (fun a' w' => (B i = false → Held w0 M w') ∧ wpX P .any ops (NoPanic Q) (Held w0 M) B fuel (listed.setIfInBounds i true) a' w') (NoPanic Q)) [o1] a w)
    (k2 : wpList P ops (Patch (fun a' w' => (B j = false → Held w0 M w') ∧ wpX P .any ops (NoPanic Q) (Held w0 M) B fuel (listed.setIfInBounds j true) a' w') (NoPanic Q)) [o2] a w) : wpX P .any ops (NoPanic Q) (Held w0 M) B (fuel + 1) listed a w :=
  gx_ways _ hr (by simp) fun q hq => by
    rcases List.mem_cons.1 hq with rfl | hq
    · exact wpOp_of_list h1 k1
    obtain rfl : q = j := by simpa using hq
    exact wpOp_of_list h2 k2
end
end
namespace GRefP_
theorem rparse_calls (LS : List ByteArray) (rem : ByteArray) (w : World) (hno : ∀ x ∈ LS, (10 : UInt8) ∉ x.data.toList) (hrem : (10 : UInt8) ∉ rem.data.toList) (hs : (catL LS ++ rem).size ≤ 100000000) :
    Calls Tryd.prog 19 #[.string (catL LS ++ rem)] w fun e w' => ∃ A_ c_ S_, e = .returned (.tuple #[.agg #[.string (outS (catL LS ++ rem)).1, .string (outS (catL LS ++ rem)).2.1, .slice A_ ((outS (catL LS ++ rem)).2.2.map cv).length c_], .int .i64 (codeP (catL LS ++ rem)), .int .i64 (parseP (catL LS ++ rem)).2]) ∧ Out w w' (fun _ => False) [Chunk.view KQ S_ A_ ((outS (catL LS ++ rem)).2.2.map cv).length c_ ((outS (catL LS ++ rem)).2.2.map cv)] := by
 have hrl := rem_le LS rem
 have hlc := lines_count LS rem
 refine gw_start (N := 110) (vs := [.string (catL LS ++ rem)]) Tryd.func19 rfl rfl (by simp) fun a HF HO => ?_
 replace HO : Own w w [] := HO
 refine gR fun K1 hK1 => ?_
 refine gw_new HF HO (want_none rfl) rfl (by decide) (op_alloc gwzer29 rfl) ?_
 intro g2 _ w4 H5 O6; clear HF HO
 have O7 : Own w w4 [Bk g2 [.string (⟨#[]⟩ : ByteArray), .string (⟨#[]⟩ : ByteArray), .slice none 0 0] 29] := O6
 clear O6
 refine Vc H5 fun _ H9 => ?_
 refine Vc H9 fun _ H11 => ?_
 refine gE hK1 ?_
 refine gR fun K12 hK12 => ?_
 refine Vm H11 fun _ H14 => ?_
 clear H5 H9 H11
 refine Wk H14 Tryd.func35 rfl (ar_cons (H14.ev rfl) ar_nil) (rcut_calls LS rem _ hno hrem (by omega)) ?_
 rintro e18 w19 ⟨A15, c16, S17, rfl, hb20⟩
 refine ⟨_, rfl, fun _ H22 => ?_⟩
 have O23 := O7.fresh hb20
 clear H14 O7 hb20
 refine Vm H22 fun _ H26 => ?_
 refine Vx H26 fun _ H28 => ?_
 refine Vx H28 fun _ H30 => ?_
 refine Va H30 fun _ H32 => ?_
 refine Va H32 fun _ H34 => ?_
 refine gE hK12 ?_
 refine gR fun K35 hK35 => ?_
 refine Vm H34 fun _ H37 => ?_
 refine V H37 (op_len Tryd.underlying58 rfl (H37.ev rfl)) fun _ H39 => ?_
 refine Va H39 fun _ H41 => ?_
 clear H22 H26 H28 H30 H32 H34 H37 H39
 refine gE hK35 ?_
 refine gw_joinS (fun a_ w_ => Fr 110 a_ [(7, J (LS.length : Int)), (2, .pointer (some ⟨g2, 0, none⟩)), (3, J 0), (4, J 0), (5, .slice A15 ((LS ++ remL rem).length) c16), (6, .bool (decide (rem = (⟨#[]⟩ : ByteArray))))] ∧ Own w w_ [Chunk.view Kd.string S17 A15 ((LS ++ remL rem).length) c16 (LS ++ remL rem), Bk g2 [.string (⟨#[]⟩ : ByteArray), .string (⟨#[]⟩ : ByteArray), .slice none 0 0] 29]) ?_ ?_
 ·
  refine gR fun K42 hK42 => ?_
  refine Vm H41 fun _ H44 => ?_
  refine V H44 (op_not rfl (H44.ev rfl)) fun _ H46 => ?_
  refine gE hK42 ?_
  clear H41 H44
  refine gw_cond H46 rfl (fun hb47 => ?_) (fun hb47 => ?_)
  ·
   have H48 := H46.subst_ (d := 25) (b := true) rfl hb47
   clear H46
   (try simp only [Bool.and_eq_true, Bool.and_eq_false_iff, Bool.not_and, Bool.or_eq_true, Bool.or_eq_false_iff, Bool.not_or, Bool.not_not, Bool.not_eq_true', Bool.not_eq_false', Bool.not_eq_true, Bool.not_eq_false, decide_eq_true_eq, decide_eq_false_iff_not] at hb47)
   have hrm : ¬ rem = (⟨#[]⟩ : ByteArray) := by have hb_ := hb47; simpa using hb_
   refine wp_region_lit ?_
   refine Vm H48 fun _ H50 => ?_
   refine V H50 (op_sub rfl (H50.ev rfl) (ev_c _ _) (by omega)) fun _ H52 => ?_
   refine Va H52 fun _ H54 => ?_
   clear H48 H50 H52
   refine wpList_nil ?_
   refine gw_nx ⟨(H54.pick (t := 7) (congrArg (fun n_ : Int => some (Value.int .i64 n_)) (rem_no hrm)) (H54.pick (t := 2) rfl (H54.pick (t := 3) rfl (H54.pick (t := 4) rfl (H54.pick (t := 5) rfl (H54.pick (t := 6) rfl H54.nil)))))), O23.sel [0, 1] (by decide)⟩
  have H55 := H46.subst_ (d := 25) (b := false) rfl hb47
  clear H46
  (try simp only [Bool.and_eq_true, Bool.and_eq_false_iff, Bool.not_and, Bool.or_eq_true, Bool.or_eq_false_iff, Bool.not_or, Bool.not_not, Bool.not_eq_true', Bool.not_eq_false', Bool.not_eq_true, Bool.not_eq_false, decide_eq_true_eq, decide_eq_false_iff_not] at hb47)
  have hrm : rem = (⟨#[]⟩ : ByteArray) := by have hb_ := hb47; simpa using hb_
  refine wp_skip ?_
  refine gw_nx ⟨(H55.pick (t := 7) (congrArg (fun n_ : Int => some (Value.int .i64 n_)) (rem_yes hrm)) (H55.pick (t := 2) rfl (H55.pick (t := 3) rfl (H55.pick (t := 4) rfl (H55.pick (t := 5) rfl (H55.pick (t := 6) rfl H55.nil)))))), O23.sel [0, 1] (by decide)⟩
 rintro _ w57 ⟨H58, O59⟩
 refine gR fun K60 hK60 => ?_
 refine V H58 (op_build (cells := #[.string (⟨#[]⟩ : ByteArray), .string (⟨#[]⟩ : ByteArray), .slice none 0 0]) rfl pt_nil (by kernel_rfl)) fun _ H62 => ?_
 clear H58
 refine gw_new H62 O59 (want_none rfl) rfl (by decide) (op_alloc gwzer29 rfl) ?_
 intro g63 _ w65 H66 O67; clear H62 O59
 have O68 : Own w w65 [Bk g63 [.string (⟨#[]⟩ : ByteArray), .string (⟨#[]⟩ : ByteArray), .slice none 0 0] 29, Chunk.view Kd.string S17 A15 ((LS ++ remL rem).length) c16 (LS ++ remL rem), Bk g2 [.string (⟨#[]⟩ : ByteArray), .string (⟨#[]⟩ : ByteArray), .slice none 0 0] 29] := O67
 clear O67
 refine gw_setn 0 H66 O68 rfl (want_none rfl) rfl (op_storen gwsiz29 rfl (H66.ev rfl) (H66.ev rfl) (O68.get 0 rfl) rfl (by simp) (by simp [Value.oneCell'])) ?_
 intro _ w71 H70 O72; clear H66 O68
 refine gE hK60 ?_
 refine gR fun K73 hK73 => ?_
 refine gw_lit (enc := Value.string) (fun _ => rfl) (xs := [(⟨#[84, 101, 115, 116, 32, 114, 117, 110, 32, 111, 102, 32]⟩ : ByteArray), (⟨#[66, 111, 97, 114, 100, 32]⟩ : ByteArray)]) (e := 9) H70 O72 (want_none rfl) rfl (by decide) (op_bslice (by kernel_rfl) rfl (pt_cons (ev_c _ _) (pt_cons (ev_c _ _) pt_nil))) (by simp) ?_
 intro A74 S75 _ w77 H78 O79; clear H70 O72
 have O80 : Own w w77 [Chunk.row Kd.string 9 w.heap.size S75 (.slice A74 (([(⟨#[84, 101, 115, 116, 32, 114, 117, 110, 32, 111, 102, 32]⟩ : ByteArray), (⟨#[66, 111, 97, 114, 100, 32]⟩ : ByteArray)]).length) (([(⟨#[84, 101, 115, 116, 32, 114, 117, 110, 32, 111, 102, 32]⟩ : ByteArray), (⟨#[66, 111, 97, 114, 100, 32]⟩ : ByteArray)]).length)) ([(⟨#[84, 101, 115, 116, 32, 114, 117, 110, 32, 111, 102, 32]⟩ : ByteArray), (⟨#[66, 111, 97, 114, 100, 32]⟩ : ByteArray)]), Bk g63 [.string (⟨#[]⟩ : ByteArray), .string (⟨#[]⟩ : ByteArray), .slice none 0 0] 29, Chunk.view Kd.string S17 A15 ((LS ++ remL rem).length) c16 (LS ++ remL rem), Bk g2 [.string (⟨#[]⟩ : ByteArray), .string (⟨#[]⟩ : ByteArray), .slice none 0 0] 29] := O79
 clear O79
 refine Va H78 fun _ H82 => ?_
 clear H78
 have O83 := O80.row_view 0 rfl
 clear O80
 have O84 : Own w w77 [Chunk.view Kd.string S75 A74 (([(⟨#[84, 101, 115, 116, 32, 114, 117, 110, 32, 111, 102, 32]⟩ : ByteArray), (⟨#[66, 111, 97, 114, 100, 32]⟩ : ByteArray)]).length) (([(⟨#[84, 101, 115, 116, 32, 114, 117, 110, 32, 111, 102, 32]⟩ : ByteArray), (⟨#[66, 111, 97, 114, 100, 32]⟩ : ByteArray)]).length) ([(⟨#[84, 101, 115, 116, 32, 114, 117, 110, 32, 111, 102, 32]⟩ : ByteArray), (⟨#[66, 111, 97, 114, 100, 32]⟩ : ByteArray)]), Bk g63 [.string (⟨#[]⟩ : ByteArray), .string (⟨#[]⟩ : ByteArray), .slice none 0 0] 29, Chunk.view Kd.string S17 A15 ((LS ++ remL rem).length) c16 (LS ++ remL rem), Bk g2 [.string (⟨#[]⟩ : ByteArray), .string (⟨#[]⟩ : ByteArray), .slice none 0 0] 29] := O83
 clear O83
 have hwl2 : ([(⟨#[84, 101, 115, 116, 32, 114, 117, 110, 32, 111, 102, 32]⟩ : ByteArray), (⟨#[66, 111, 97, 114, 100, 32]⟩ : ByteArray)]).length = 2 := rfl
 refine gE hK73 ?_
 refine gw_seq fun K85 hK85 => ?_
 refine gR fun K86 hK86 => ?_
 refine Vc H82 fun _ H88 => ?_
 refine gE hK86 ?_
 clear H82
 refine wp_block ?_
 refine gw_loop (fun m_ a_ w_ => ∃ (i : Int) (su : ByteArray) (bo : ByteArray), Fr 110 a_ [(10, J i), (7, J (LS.length : Int)), (2, .pointer (some ⟨g2, 0, none⟩)), (5, .slice A15 ((LS ++ remL rem).length) c16), (6, .bool (decide (rem = (⟨#[]⟩ : ByteArray)))), (8, .pointer (some ⟨g63, 0, none⟩)), (9, .slice A74 (([(⟨#[84, 101, 115, 116, 32, 114, 117, 110, 32, 111, 102, 32]⟩ : ByteArray), (⟨#[66, 111, 97, 114, 100, 32]⟩ : ByteArray)]).length) (([(⟨#[84, 101, 115, 116, 32, 114, 117, 110, 32, 111, 102, 32]⟩ : ByteArray), (⟨#[66, 111, 97, 114, 100, 32]⟩ : ByteArray)]).length))] ∧ Own w w_ [Chunk.view Kd.string S75 A74 (([(⟨#[84, 101, 115, 116, 32, 114, 117, 110, 32, 111, 102, 32]⟩ : ByteArray), (⟨#[66, 111, 97, 114, 100, 32]⟩ : ByteArray)]).length) (([(⟨#[84, 101, 115, 116, 32, 114, 117, 110, 32, 111, 102, 32]⟩ : ByteArray), (⟨#[66, 111, 97, 114, 100, 32]⟩ : ByteArray)]).length) ([(⟨#[84, 101, 115, 116, 32, 114, 117, 110, 32, 111, 102, 32]⟩ : ByteArray), (⟨#[66, 111, 97, 114, 100, 32]⟩ : ByteArray)]), Bk g63 [.string su, .string bo, .slice none 0 0] 29, Chunk.view Kd.string S17 A15 ((LS ++ remL rem).length) c16 (LS ++ remL rem), Bk g2 [.string (⟨#[]⟩ : ByteArray), .string (⟨#[]⟩ : ByteArray), .slice none 0 0] 29] ∧ (0 ≤ i ∧ i ≤ 2) ∧ ((1 ≤ i → 1 ≤ LS.length ∧ nmO (LS.getD 0 (⟨#[]⟩ : ByteArray)) w1B = true ∧ su = nmB (LS.getD 0 (⟨#[]⟩ : ByteArray)) w1B)) ∧ ((2 ≤ i → 2 ≤ LS.length ∧ nmO (LS.getD 1 (⟨#[]⟩ : ByteArray)) w2B = true ∧ bo = nmB (LS.getD 1 (⟨#[]⟩ : ByteArray)) w2B)) ∧ m_ = (2 - i.toNat)) ((2 - (0 : Int).toNat)) ?_ ?_
 ·
  refine ⟨0, _, _, (H88.pick (t := 10) rfl (H88.pick (t := 7) rfl (H88.pick (t := 2) rfl (H88.pick (t := 5) rfl (H88.pick (t := 6) rfl (H88.pick (t := 8) rfl (H88.pick (t := 9) rfl H88.nil))))))), O84.sel [0, 1, 2, 3] (by decide), ?_, ?_, ?_, rfl⟩
  ·
   omega
  ·
   exact fun h_ => absurd h_ (by decide)
  exact fun h_ => absurd h_ (by decide)
 rintro m90 _ w92 ⟨i, su, bo, H93, O94, hi, h0, h1, hm95⟩
 rcases (show i = 0 ∨ i = 1 ∨ i = 2 from by omega) with rfl | rfl | rfl
 ·
  refine gw_seq fun K96 hK96 => ?_
  refine gR fun K97 hK97 => ?_
  refine Vm H93 fun _ H99 => ?_
  refine V H99 (op_lss rfl (H99.ev rfl) (ev_c _ _)) fun _ H101 => ?_
  clear H93 H99
  have H102 := H101.lit (b := true) (by decide)
  clear H101
  refine gE hK97 ?_
  refine gw_cond H102 rfl (fun hb103 => ?_) (fun hb103 => ?_)
  rotate_left
  ·
   cases hb103
  refine gS hK96 ?_
  refine gw_seq fun K104 hK104 => ?_
  refine wp_block ?_
  refine gw_seq fun K105 hK105 => ?_
  refine gR fun K106 hK106 => ?_
  refine Vm H102 fun _ H108 => ?_
  refine Vm H108 fun _ H110 => ?_
  refine V H110 (op_geq rfl (H110.ev rfl) (H110.ev rfl)) fun _ H112 => ?_
  refine gE hK106 ?_
  clear H102 H108 H110
  refine gw_cond H112 rfl (fun hb113 => ?_) (fun hb113 => ?_)
  ·
   have H114 := H112.subst_ (d := 36) (b := true) rfl hb113
   clear H112
   (try simp only [decide_eq_true_eq] at hb113)
   refine gR fun K115 hK115 => ?_
   refine V H114 (op_build (cells := #[.string (⟨#[]⟩ : ByteArray), .string (⟨#[]⟩ : ByteArray), .slice none 0 0]) rfl pt_nil (by kernel_rfl)) fun _ H117 => ?_
   refine Vm H117 fun _ H119 => ?_
   clear H114 H117
   refine gw_setn 3 H119 O94 rfl (want_none rfl) rfl (op_storen gwsiz29 rfl (H119.ev rfl) (H119.ev rfl) (O94.get 3 rfl) rfl (by simp) (by simp [Value.oneCell'])) ?_
   intro _ w122 H121 O123; clear H119 O94
   refine Vc H121 fun _ H125 => ?_
   refine Va H125 fun _ H127 => ?_
   refine gE hK115 ?_
   refine wp_ret ?_
   clear H121 H125
   refine gw_thr ?_
   refine gw_blr ?_
   refine gw_thr ?_
   refine gw_thr ?_
   refine gw_blr ?_
   refine gw_thr ?_
   refine gw_rets3 H127 rfl (rv_celln H127 rfl gwagg29 gwsiz29 (O123.get 3 rfl) rfl) (rv_tmp H127 rfl) (rv_tmp H127 rfl) ?_
   have hr_ : parseP (catL LS ++ rem) = (none, 0) := by rw [parse_ref LS rem hno hrem]; exact rp_a (by omega)
   obtain ⟨ho_, hc_, ha_⟩ := told_no hr_
   rw [ho_, hc_, ha_]
   have O128_1 := (O123.row_nil k53 53 w.heap.size).row_view 0 rfl
   exact ⟨none, 0, _, rfl, (O128_1.sel [0] (by decide)).out⟩
  have H129 := H112.subst_ (d := 36) (b := false) rfl hb113
  clear H112
  (try simp only [decide_eq_false_iff_not, Int.not_le] at hb113)
  refine gS hK105 ?_
  refine gw_seq fun K130 hK130 => ?_
  refine gw_drawB O94 (by kernel_rfl) (by kernel_rfl) fun w131 O132 => ?_
  clear O94
  refine Vn H129 (op_move rfl (H129.ev rfl)) fun _ H134 => ?_
  refine Vn H134 (op_move rfl (H134.ev rfl)) fun _ H136 => ?_
  clear H129 H134
  have O143 := O132.pin 2 rfl
  clear O132
  have O144 : Own w w131 [Chunk.view Kd.string S75 A74 (([(⟨#[84, 101, 115, 116, 32, 114, 117, 110, 32, 111, 102, 32]⟩ : ByteArray), (⟨#[66, 111, 97, 114, 100, 32]⟩ : ByteArray)]).length) (([(⟨#[84, 101, 115, 116, 32, 114, 117, 110, 32, 111, 102, 32]⟩ : ByteArray), (⟨#[66, 111, 97, 114, 100, 32]⟩ : ByteArray)]).length) ([(⟨#[84, 101, 115, 116, 32, 114, 117, 110, 32, 111, 102, 32]⟩ : ByteArray), (⟨#[66, 111, 97, 114, 100, 32]⟩ : ByteArray)]), Bk g63 [.string su, .string bo, .slice none 0 0] 29, Chunk.viewAt w131 Kd.string S17 A15 ((LS ++ remL rem).length) c16 (LS ++ remL rem), Bk g2 [.string (⟨#[]⟩ : ByteArray), .string (⟨#[]⟩ : ByteArray), .slice none 0 0] 29] := O143
  clear O143
  obtain ⟨ad137, cs140, hA138, hl141, hK142, hc139, _⟩ := Kd.F_get (viewAt_F (O144.get 2 rfl)) (⟨#[]⟩ : ByteArray) 0 (by omega) (by omega)
  obtain rfl := str_openF hK142
  clear hl141
  refine Vn H136 (op_index Tryd.underlying58 gwsiz9 rfl (H136.ev rfl) (H136.ev rfl) hA138 (⟨by omega, by omega⟩)) fun _ H146 => ?_
  refine Vq H146 (fun wq hq => have HO := O144.after hq; op_load1 gwagg9 rfl (H146.ev rfl) (((pin_cells (HO.get 2 rfl) hA138 hc139) 0 _ rfl))) fun _ H148 => ?_
  clear H136 H146
  have H149 := H148.conv (v' := .string (LS.getD (0 : Int).toNat (⟨#[]⟩ : ByteArray))) (congrArg Value.string (getD_rem LS rem 0 (by decide) (by omega)))
  clear H148
  refine Vn H149 (op_move rfl (H149.ev rfl)) fun _ H151 => ?_
  refine Vn H151 (op_move rfl (H151.ev rfl)) fun _ H153 => ?_
  clear H149 H151
  have O160 := O144.pin 0 rfl
  clear O144
  have O161 : Own w w131 [Chunk.viewAt w131 Kd.string S75 A74 (([(⟨#[84, 101, 115, 116, 32, 114, 117, 110, 32, 111, 102, 32]⟩ : ByteArray), (⟨#[66, 111, 97, 114, 100, 32]⟩ : ByteArray)]).length) (([(⟨#[84, 101, 115, 116, 32, 114, 117, 110, 32, 111, 102, 32]⟩ : ByteArray), (⟨#[66, 111, 97, 114, 100, 32]⟩ : ByteArray)]).length) ([(⟨#[84, 101, 115, 116, 32, 114, 117, 110, 32, 111, 102, 32]⟩ : ByteArray), (⟨#[66, 111, 97, 114, 100, 32]⟩ : ByteArray)]), Bk g63 [.string su, .string bo, .slice none 0 0] 29, Chunk.viewAt w131 Kd.string S17 A15 ((LS ++ remL rem).length) c16 (LS ++ remL rem), Bk g2 [.string (⟨#[]⟩ : ByteArray), .string (⟨#[]⟩ : ByteArray), .slice none 0 0] 29] := O160
  clear O160
  obtain ⟨ad154, cs157, hA155, hl158, hK159, hc156, _⟩ := Kd.F_get (viewAt_F (O161.get 0 rfl)) (⟨#[]⟩ : ByteArray) 0 (by omega) (by omega)
  obtain rfl := str_openF hK159
  clear hl158
  refine Vn H153 (op_index Tryd.underlying58 gwsiz9 rfl (H153.ev rfl) (H153.ev rfl) hA155 (⟨by omega, by omega⟩)) fun _ H163 => ?_
  refine Vq H163 (fun wq hq => have HO := O161.after hq; op_load1 gwagg9 rfl (H163.ev rfl) (((pin_cells (HO.get 0 rfl) hA155 hc156) 0 _ rfl))) fun _ H165 => ?_
  clear H153 H163
  have H166 := H165.conv (v' := .string (⟨#[84, 101, 115, 116, 32, 114, 117, 110, 32, 111, 102, 32]⟩ : ByteArray)) (rfl)
  clear H165
  refine gq_call H166 (want_none rfl) rfl (by decide) (fun wq hq => have HO := O161.after hq; (op_callL Tryd.func36 (by kernel_rfl) rfl rfl (ar_cons (H166.ev rfl) (ar_cons (H166.ev rfl) ar_nil)))) (fun wq hq => have HO := O161.after hq; (rnm_calls (LS.getD (0 : Int).toNat (⟨#[]⟩ : ByteArray)) (⟨#[84, 101, 115, 116, 32, 114, 117, 110, 32, 111, 102, 32]⟩ : ByteArray) _ (by have h_ := line_le LS rem 0; exact Nat.le_trans h_ (by omega)) (by decide)).mono fun e w' h => ⟨h.1, below_then hq h.2⟩) ?_
  intro _ H168; clear H166
  refine Vn H168 (op_move rfl (H168.ev rfl)) fun _ H170 => ?_
  refine Vn H170 (op_extract rfl (H170.ev rfl) rfl) fun _ H172 => ?_
  refine Vn H172 (op_extract rfl (H172.ev rfl) rfl) fun _ H174 => ?_
  refine Vn H174 (op_assign rfl (H174.ev rfl)) fun _ H176 => ?_
  refine Vn H176 (op_assign rfl (H176.ev rfl)) fun _ H178 => ?_
  clear H168 H170 H172 H174 H176
  refine wpQuiet_nil ?_
  intro w179 hq
  have O180 := O161.after hq
  clear O161 hq
  refine gw_nx (hK130 _ _ ?_)
  refine gw_seq fun K181 hK181 => ?_
  refine gR fun K182 hK182 => ?_
  refine Vm H178 fun _ H184 => ?_
  refine V H184 (op_not rfl (H184.ev rfl)) fun _ H186 => ?_
  refine gE hK182 ?_
  clear H178 H184
  refine gw_cond H186 rfl (fun hb187 => ?_) (fun hb187 => ?_)
  ·
   have H188 := H186.subst_ (d := 52) (b := true) rfl hb187
   clear H186
   (try simp only [Bool.and_eq_true, Bool.and_eq_false_iff, Bool.not_and, Bool.or_eq_true, Bool.or_eq_false_iff, Bool.not_or, Bool.not_not, Bool.not_eq_true', Bool.not_eq_false', Bool.not_eq_true, Bool.not_eq_false] at hb187)
   have hnm : nmO (LS.getD 0 (⟨#[]⟩ : ByteArray)) w1B = false := by rw [← rnm_O]; exact hb187
   refine gR fun K189 hK189 => ?_
   refine V H188 (op_build (cells := #[.string (⟨#[]⟩ : ByteArray), .string (⟨#[]⟩ : ByteArray), .slice none 0 0]) rfl pt_nil (by kernel_rfl)) fun _ H191 => ?_
   refine Vm H191 fun _ H193 => ?_
   clear H188 H191
   refine gw_setn 3 H193 O180 rfl (want_none rfl) rfl (op_storen gwsiz29 rfl (H193.ev rfl) (H193.ev rfl) (O180.get 3 rfl) rfl (by simp) (by simp [Value.oneCell'])) ?_
   intro _ w196 H195 O197; clear H193 O180
   refine Vc H195 fun _ H199 => ?_
   refine Va H199 fun _ H201 => ?_
   refine gE hK189 ?_
   refine wp_ret ?_
   clear H195 H199
   refine gw_thr ?_
   refine gw_blr ?_
   refine gw_thr ?_
   refine gw_thr ?_
   refine gw_blr ?_
   refine gw_thr ?_
   have O202 := O197.unpin 0 rfl
   clear O197
   have O203 : Own w w196 [Chunk.view Kd.string S75 A74 (([(⟨#[84, 101, 115, 116, 32, 114, 117, 110, 32, 111, 102, 32]⟩ : ByteArray), (⟨#[66, 111, 97, 114, 100, 32]⟩ : ByteArray)]).length) (([(⟨#[84, 101, 115, 116, 32, 114, 117, 110, 32, 111, 102, 32]⟩ : ByteArray), (⟨#[66, 111, 97, 114, 100, 32]⟩ : ByteArray)]).length) ([(⟨#[84, 101, 115, 116, 32, 114, 117, 110, 32, 111, 102, 32]⟩ : ByteArray), (⟨#[66, 111, 97, 114, 100, 32]⟩ : ByteArray)]), Bk g63 [.string su, .string bo, .slice none 0 0] 29, Chunk.viewAt w131 Kd.string S17 A15 ((LS ++ remL rem).length) c16 (LS ++ remL rem), Bk g2 [.string (⟨#[]⟩ : ByteArray), .string (⟨#[]⟩ : ByteArray), .slice none 0 0] 29] := O202
   clear O202
   have O204 := O203.unpin 2 rfl
   clear O203
   have O205 : Own w w196 [Chunk.view Kd.string S75 A74 (([(⟨#[84, 101, 115, 116, 32, 114, 117, 110, 32, 111, 102, 32]⟩ : ByteArray), (⟨#[66, 111, 97, 114, 100, 32]⟩ : ByteArray)]).length) (([(⟨#[84, 101, 115, 116, 32, 114, 117, 110, 32, 111, 102, 32]⟩ : ByteArray), (⟨#[66, 111, 97, 114, 100, 32]⟩ : ByteArray)]).length) ([(⟨#[84, 101, 115, 116, 32, 114, 117, 110, 32, 111, 102, 32]⟩ : ByteArray), (⟨#[66, 111, 97, 114, 100, 32]⟩ : ByteArray)]), Bk g63 [.string su, .string bo, .slice none 0 0] 29, Chunk.view Kd.string S17 A15 ((LS ++ remL rem).length) c16 (LS ++ remL rem), Bk g2 [.string (⟨#[]⟩ : ByteArray), .string (⟨#[]⟩ : ByteArray), .slice none 0 0] 29] := O204
   clear O204
   refine gw_rets3 H201 rfl (rv_celln H201 rfl gwagg29 gwsiz29 (O205.get 3 rfl) rfl) (rv_tmp H201 rfl) (rv_tmp H201 rfl) ?_
   have hr_ : parseP (catL LS ++ rem) = (none, 0) := by rw [parse_ref LS rem hno hrem]; exact rp_b (by omega) hnm
   obtain ⟨ho_, hc_, ha_⟩ := told_no hr_
   rw [ho_, hc_, ha_]
   have O206_1 := (O205.row_nil k53 53 w.heap.size).row_view 0 rfl
   exact ⟨none, 0, _, rfl, (O206_1.sel [0] (by decide)).out⟩
  have H207 := H186.subst_ (d := 52) (b := false) rfl hb187
  clear H186
  (try simp only [Bool.and_eq_true, Bool.and_eq_false_iff, Bool.not_and, Bool.or_eq_true, Bool.or_eq_false_iff, Bool.not_or, Bool.not_not, Bool.not_eq_true', Bool.not_eq_false', Bool.not_eq_true, Bool.not_eq_false] at hb187)
  have hnm : nmO (LS.getD 0 (⟨#[]⟩ : ByteArray)) w1B = true := by rw [← rnm_O]; exact hb187
  refine gS hK181 ?_
  refine gR fun K208 hK208 => ?_
  refine Vm H207 fun _ H210 => ?_
  refine V H210 (op_eqi rfl (H210.ev rfl) (ev_c _ _)) fun _ H212 => ?_
  clear H207 H210
  have H213 := H212.lit (b := true) (by decide)
  clear H212
  refine gE hK208 ?_
  refine gw_cond H213 rfl (fun hb214 => ?_) (fun hb214 => ?_)
  rotate_left
  ·
   cases hb214
  refine wp_region_lit ?_
  refine Vm H213 fun _ H216 => ?_
  clear H213
  have H217 := H216.conv (v' := .string (nmB (LS.getD 0 (⟨#[]⟩ : ByteArray)) w1B)) (congrArg Value.string (rnm_B hnm))
  clear H216
  refine Vf H217 (gwfld29_0 _ _) fun _ H219 => ?_
  clear H217
  refine gw_set 1 H219 O180 rfl (want_none rfl) rfl (op_store1 gwsiz9 rfl (H219.ev rfl) (H219.ev rfl) rfl (blk_at (O180.get 1 rfl) rfl) (blkf (O180.get 1 rfl))) ?_
  intro _ w222 H221 O223; clear H219 O180
  refine wpList_nil ?_
  refine gw_blk ?_
  refine gw_nx (hK104 _ _ ?_)
  refine wp_region_lit ?_
  refine Vm H221 fun _ H225 => ?_
  refine V H225 (op_add rfl (H225.ev rfl) (ev_c _ _) (by omega)) fun _ H227 => ?_
  refine Va H227 fun _ H229 => ?_
  clear H221 H225 H227
  refine wpList_nil ?_
  have O230 := O223.unpin 0 rfl
  clear O223
  have O231 : Own w w222 [Chunk.view Kd.string S75 A74 (([(⟨#[84, 101, 115, 116, 32, 114, 117, 110, 32, 111, 102, 32]⟩ : ByteArray), (⟨#[66, 111, 97, 114, 100, 32]⟩ : ByteArray)]).length) (([(⟨#[84, 101, 115, 116, 32, 114, 117, 110, 32, 111, 102, 32]⟩ : ByteArray), (⟨#[66, 111, 97, 114, 100, 32]⟩ : ByteArray)]).length) ([(⟨#[84, 101, 115, 116, 32, 114, 117, 110, 32, 111, 102, 32]⟩ : ByteArray), (⟨#[66, 111, 97, 114, 100, 32]⟩ : ByteArray)]), Bk g63 [.string (nmB (LS.getD 0 (⟨#[]⟩ : ByteArray)) w1B), .string bo, .slice none 0 0] 29, Chunk.viewAt w131 Kd.string S17 A15 ((LS ++ remL rem).length) c16 (LS ++ remL rem), Bk g2 [.string (⟨#[]⟩ : ByteArray), .string (⟨#[]⟩ : ByteArray), .slice none 0 0] 29] := O230
  clear O230
  have O232 := O231.unpin 2 rfl
  clear O231
  have O233 : Own w w222 [Chunk.view Kd.string S75 A74 (([(⟨#[84, 101, 115, 116, 32, 114, 117, 110, 32, 111, 102, 32]⟩ : ByteArray), (⟨#[66, 111, 97, 114, 100, 32]⟩ : ByteArray)]).length) (([(⟨#[84, 101, 115, 116, 32, 114, 117, 110, 32, 111, 102, 32]⟩ : ByteArray), (⟨#[66, 111, 97, 114, 100, 32]⟩ : ByteArray)]).length) ([(⟨#[84, 101, 115, 116, 32, 114, 117, 110, 32, 111, 102, 32]⟩ : ByteArray), (⟨#[66, 111, 97, 114, 100, 32]⟩ : ByteArray)]), Bk g63 [.string (nmB (LS.getD 0 (⟨#[]⟩ : ByteArray)) w1B), .string bo, .slice none 0 0] 29, Chunk.view Kd.string S17 A15 ((LS ++ remL rem).length) c16 (LS ++ remL rem), Bk g2 [.string (⟨#[]⟩ : ByteArray), .string (⟨#[]⟩ : ByteArray), .slice none 0 0] 29] := O232
  clear O232
  refine gw_nx ⟨_, ?_, 0 + 1, (nmB (LS.getD 0 (⟨#[]⟩ : ByteArray)) w1B), bo, (H229.pick (t := 10) rfl (H229.pick (t := 7) rfl (H229.pick (t := 2) rfl (H229.pick (t := 5) rfl (H229.pick (t := 6) rfl (H229.pick (t := 8) rfl (H229.pick (t := 9) rfl H229.nil))))))), O233.sel [0, 1, 2, 3] (by decide), ?_, ?_, ?_, rfl⟩
  ·
   rw [hm95]; omega
  ·
   omega
  ·
   exact fun _ => ⟨by omega, hnm, rfl⟩
  exact fun h_ => absurd h_ (by decide)
 ·
  refine gw_seq fun K234 hK234 => ?_
  refine gR fun K235 hK235 => ?_
  refine Vm H93 fun _ H237 => ?_
  refine V H237 (op_lss rfl (H237.ev rfl) (ev_c _ _)) fun _ H239 => ?_
  clear H93 H237
  have H240 := H239.lit (b := true) (by decide)
  clear H239
  refine gE hK235 ?_
  refine gw_cond H240 rfl (fun hb241 => ?_) (fun hb241 => ?_)
  rotate_left
  ·
   cases hb241
  refine gS hK234 ?_
  refine gw_seq fun K242 hK242 => ?_
  refine wp_block ?_
  refine gw_seq fun K243 hK243 => ?_
  refine gR fun K244 hK244 => ?_
  refine Vm H240 fun _ H246 => ?_
  refine Vm H246 fun _ H248 => ?_
  refine V H248 (op_geq rfl (H248.ev rfl) (H248.ev rfl)) fun _ H250 => ?_
  refine gE hK244 ?_
  clear H240 H246 H248
  refine gw_cond H250 rfl (fun hb251 => ?_) (fun hb251 => ?_)
  ·
   have H252 := H250.subst_ (d := 36) (b := true) rfl hb251
   clear H250
   (try simp only [decide_eq_true_eq] at hb251)
   refine gR fun K253 hK253 => ?_
   refine V H252 (op_build (cells := #[.string (⟨#[]⟩ : ByteArray), .string (⟨#[]⟩ : ByteArray), .slice none 0 0]) rfl pt_nil (by kernel_rfl)) fun _ H255 => ?_
   refine Vm H255 fun _ H257 => ?_
   clear H252 H255
   refine gw_setn 3 H257 O94 rfl (want_none rfl) rfl (op_storen gwsiz29 rfl (H257.ev rfl) (H257.ev rfl) (O94.get 3 rfl) rfl (by simp) (by simp [Value.oneCell'])) ?_
   intro _ w260 H259 O261; clear H257 O94
   refine Vc H259 fun _ H263 => ?_
   refine Va H263 fun _ H265 => ?_
   refine gE hK253 ?_
   refine wp_ret ?_
   clear H259 H263
   refine gw_thr ?_
   refine gw_blr ?_
   refine gw_thr ?_
   refine gw_thr ?_
   refine gw_blr ?_
   refine gw_thr ?_
   refine gw_rets3 H265 rfl (rv_celln H265 rfl gwagg29 gwsiz29 (O261.get 3 rfl) rfl) (rv_tmp H265 rfl) (rv_tmp H265 rfl) ?_
   have hr_ : parseP (catL LS ++ rem) = (none, 1) := by rw [parse_ref LS rem hno hrem]; exact rp_c (h0 (by decide)).1 (by omega) (h0 (by decide)).2.1
   obtain ⟨ho_, hc_, ha_⟩ := told_no hr_
   rw [ho_, hc_, ha_]
   have O266_1 := (O261.row_nil k53 53 w.heap.size).row_view 0 rfl
   exact ⟨none, 0, _, rfl, (O266_1.sel [0] (by decide)).out⟩
  have H267 := H250.subst_ (d := 36) (b := false) rfl hb251
  clear H250
  (try simp only [decide_eq_false_iff_not, Int.not_le] at hb251)
  refine gS hK243 ?_
  refine gw_seq fun K268 hK268 => ?_
  refine gw_drawB O94 (by kernel_rfl) (by kernel_rfl) fun w269 O270 => ?_
  clear O94
  refine Vn H267 (op_move rfl (H267.ev rfl)) fun _ H272 => ?_
  refine Vn H272 (op_move rfl (H272.ev rfl)) fun _ H274 => ?_
  clear H267 H272
  have O281 := O270.pin 2 rfl
  clear O270
  have O282 : Own w w269 [Chunk.view Kd.string S75 A74 (([(⟨#[84, 101, 115, 116, 32, 114, 117, 110, 32, 111, 102, 32]⟩ : ByteArray), (⟨#[66, 111, 97, 114, 100, 32]⟩ : ByteArray)]).length) (([(⟨#[84, 101, 115, 116, 32, 114, 117, 110, 32, 111, 102, 32]⟩ : ByteArray), (⟨#[66, 111, 97, 114, 100, 32]⟩ : ByteArray)]).length) ([(⟨#[84, 101, 115, 116, 32, 114, 117, 110, 32, 111, 102, 32]⟩ : ByteArray), (⟨#[66, 111, 97, 114, 100, 32]⟩ : ByteArray)]), Bk g63 [.string su, .string bo, .slice none 0 0] 29, Chunk.viewAt w269 Kd.string S17 A15 ((LS ++ remL rem).length) c16 (LS ++ remL rem), Bk g2 [.string (⟨#[]⟩ : ByteArray), .string (⟨#[]⟩ : ByteArray), .slice none 0 0] 29] := O281
  clear O281
  obtain ⟨ad275, cs278, hA276, hl279, hK280, hc277, _⟩ := Kd.F_get (viewAt_F (O282.get 2 rfl)) (⟨#[]⟩ : ByteArray) 1 (by omega) (by omega)
  obtain rfl := str_openF hK280
  clear hl279
  refine Vn H274 (op_index Tryd.underlying58 gwsiz9 rfl (H274.ev rfl) (H274.ev rfl) hA276 (⟨by omega, by omega⟩)) fun _ H284 => ?_
  refine Vq H284 (fun wq hq => have HO := O282.after hq; op_load1 gwagg9 rfl (H284.ev rfl) (((pin_cells (HO.get 2 rfl) hA276 hc277) 0 _ rfl))) fun _ H286 => ?_
  clear H274 H284
  have H287 := H286.conv (v' := .string (LS.getD (1 : Int).toNat (⟨#[]⟩ : ByteArray))) (congrArg Value.string (getD_rem LS rem 1 (by decide) (by omega)))
  clear H286
  refine Vn H287 (op_move rfl (H287.ev rfl)) fun _ H289 => ?_
  refine Vn H289 (op_move rfl (H289.ev rfl)) fun _ H291 => ?_
  clear H287 H289
  have O298 := O282.pin 0 rfl
  clear O282
  have O299 : Own w w269 [Chunk.viewAt w269 Kd.string S75 A74 (([(⟨#[84, 101, 115, 116, 32, 114, 117, 110, 32, 111, 102, 32]⟩ : ByteArray), (⟨#[66, 111, 97, 114, 100, 32]⟩ : ByteArray)]).length) (([(⟨#[84, 101, 115, 116, 32, 114, 117, 110, 32, 111, 102, 32]⟩ : ByteArray), (⟨#[66, 111, 97, 114, 100, 32]⟩ : ByteArray)]).length) ([(⟨#[84, 101, 115, 116, 32, 114, 117, 110, 32, 111, 102, 32]⟩ : ByteArray), (⟨#[66, 111, 97, 114, 100, 32]⟩ : ByteArray)]), Bk g63 [.string su, .string bo, .slice none 0 0] 29, Chunk.viewAt w269 Kd.string S17 A15 ((LS ++ remL rem).length) c16 (LS ++ remL rem), Bk g2 [.string (⟨#[]⟩ : ByteArray), .string (⟨#[]⟩ : ByteArray), .slice none 0 0] 29] := O298
  clear O298
  obtain ⟨ad292, cs295, hA293, hl296, hK297, hc294, _⟩ := Kd.F_get (viewAt_F (O299.get 0 rfl)) (⟨#[]⟩ : ByteArray) 1 (by omega) (by omega)
  obtain rfl := str_openF hK297
  clear hl296
  refine Vn H291 (op_index Tryd.underlying58 gwsiz9 rfl (H291.ev rfl) (H291.ev rfl) hA293 (⟨by omega, by omega⟩)) fun _ H301 => ?_
  refine Vq H301 (fun wq hq => have HO := O299.after hq; op_load1 gwagg9 rfl (H301.ev rfl) (((pin_cells (HO.get 0 rfl) hA293 hc294) 0 _ rfl))) fun _ H303 => ?_
  clear H291 H301
  have H304 := H303.conv (v' := .string (⟨#[66, 111, 97, 114, 100, 32]⟩ : ByteArray)) (rfl)
  clear H303
  refine gq_call H304 (want_none rfl) rfl (by decide) (fun wq hq => have HO := O299.after hq; (op_callL Tryd.func36 (by kernel_rfl) rfl rfl (ar_cons (H304.ev rfl) (ar_cons (H304.ev rfl) ar_nil)))) (fun wq hq => have HO := O299.after hq; (rnm_calls (LS.getD (1 : Int).toNat (⟨#[]⟩ : ByteArray)) (⟨#[66, 111, 97, 114, 100, 32]⟩ : ByteArray) _ (by have h_ := line_le LS rem 1; exact Nat.le_trans h_ (by omega)) (by decide)).mono fun e w' h => ⟨h.1, below_then hq h.2⟩) ?_
  intro _ H306; clear H304
  refine Vn H306 (op_move rfl (H306.ev rfl)) fun _ H308 => ?_
  refine Vn H308 (op_extract rfl (H308.ev rfl) rfl) fun _ H310 => ?_
  refine Vn H310 (op_extract rfl (H310.ev rfl) rfl) fun _ H312 => ?_
  refine Vn H312 (op_assign rfl (H312.ev rfl)) fun _ H314 => ?_
  refine Vn H314 (op_assign rfl (H314.ev rfl)) fun _ H316 => ?_
  clear H306 H308 H310 H312 H314
  refine wpQuiet_nil ?_
  intro w317 hq
  have O318 := O299.after hq
  clear O299 hq
  refine gw_nx (hK268 _ _ ?_)
  refine gw_seq fun K319 hK319 => ?_
  refine gR fun K320 hK320 => ?_
  refine Vm H316 fun _ H322 => ?_
  refine V H322 (op_not rfl (H322.ev rfl)) fun _ H324 => ?_
  refine gE hK320 ?_
  clear H316 H322
  refine gw_cond H324 rfl (fun hb325 => ?_) (fun hb325 => ?_)
  ·
   have H326 := H324.subst_ (d := 52) (b := true) rfl hb325
   clear H324
   (try simp only [Bool.and_eq_true, Bool.and_eq_false_iff, Bool.not_and, Bool.or_eq_true, Bool.or_eq_false_iff, Bool.not_or, Bool.not_not, Bool.not_eq_true', Bool.not_eq_false', Bool.not_eq_true, Bool.not_eq_false] at hb325)
   have hnm : nmO (LS.getD 1 (⟨#[]⟩ : ByteArray)) w2B = false := by rw [← rnm_O]; exact hb325
   refine gR fun K327 hK327 => ?_
   refine V H326 (op_build (cells := #[.string (⟨#[]⟩ : ByteArray), .string (⟨#[]⟩ : ByteArray), .slice none 0 0]) rfl pt_nil (by kernel_rfl)) fun _ H329 => ?_
   refine Vm H329 fun _ H331 => ?_
   clear H326 H329
   refine gw_setn 3 H331 O318 rfl (want_none rfl) rfl (op_storen gwsiz29 rfl (H331.ev rfl) (H331.ev rfl) (O318.get 3 rfl) rfl (by simp) (by simp [Value.oneCell'])) ?_
   intro _ w334 H333 O335; clear H331 O318
   refine Vc H333 fun _ H337 => ?_
   refine Va H337 fun _ H339 => ?_
   refine gE hK327 ?_
   refine wp_ret ?_
   clear H333 H337
   refine gw_thr ?_
   refine gw_blr ?_
   refine gw_thr ?_
   refine gw_thr ?_
   refine gw_blr ?_
   refine gw_thr ?_
   have O340 := O335.unpin 0 rfl
   clear O335
   have O341 : Own w w334 [Chunk.view Kd.string S75 A74 (([(⟨#[84, 101, 115, 116, 32, 114, 117, 110, 32, 111, 102, 32]⟩ : ByteArray), (⟨#[66, 111, 97, 114, 100, 32]⟩ : ByteArray)]).length) (([(⟨#[84, 101, 115, 116, 32, 114, 117, 110, 32, 111, 102, 32]⟩ : ByteArray), (⟨#[66, 111, 97, 114, 100, 32]⟩ : ByteArray)]).length) ([(⟨#[84, 101, 115, 116, 32, 114, 117, 110, 32, 111, 102, 32]⟩ : ByteArray), (⟨#[66, 111, 97, 114, 100, 32]⟩ : ByteArray)]), Bk g63 [.string su, .string bo, .slice none 0 0] 29, Chunk.viewAt w269 Kd.string S17 A15 ((LS ++ remL rem).length) c16 (LS ++ remL rem), Bk g2 [.string (⟨#[]⟩ : ByteArray), .string (⟨#[]⟩ : ByteArray), .slice none 0 0] 29] := O340
   clear O340
   have O342 := O341.unpin 2 rfl
   clear O341
   have O343 : Own w w334 [Chunk.view Kd.string S75 A74 (([(⟨#[84, 101, 115, 116, 32, 114, 117, 110, 32, 111, 102, 32]⟩ : ByteArray), (⟨#[66, 111, 97, 114, 100, 32]⟩ : ByteArray)]).length) (([(⟨#[84, 101, 115, 116, 32, 114, 117, 110, 32, 111, 102, 32]⟩ : ByteArray), (⟨#[66, 111, 97, 114, 100, 32]⟩ : ByteArray)]).length) ([(⟨#[84, 101, 115, 116, 32, 114, 117, 110, 32, 111, 102, 32]⟩ : ByteArray), (⟨#[66, 111, 97, 114, 100, 32]⟩ : ByteArray)]), Bk g63 [.string su, .string bo, .slice none 0 0] 29, Chunk.view Kd.string S17 A15 ((LS ++ remL rem).length) c16 (LS ++ remL rem), Bk g2 [.string (⟨#[]⟩ : ByteArray), .string (⟨#[]⟩ : ByteArray), .slice none 0 0] 29] := O342
   clear O342
   refine gw_rets3 H339 rfl (rv_celln H339 rfl gwagg29 gwsiz29 (O343.get 3 rfl) rfl) (rv_tmp H339 rfl) (rv_tmp H339 rfl) ?_
   have hr_ : parseP (catL LS ++ rem) = (none, 1) := by rw [parse_ref LS rem hno hrem]; exact rp_d (by omega) (h0 (by decide)).2.1 hnm
   obtain ⟨ho_, hc_, ha_⟩ := told_no hr_
   rw [ho_, hc_, ha_]
   have O344_1 := (O343.row_nil k53 53 w.heap.size).row_view 0 rfl
   exact ⟨none, 0, _, rfl, (O344_1.sel [0] (by decide)).out⟩
  have H345 := H324.subst_ (d := 52) (b := false) rfl hb325
  clear H324
  (try simp only [Bool.and_eq_true, Bool.and_eq_false_iff, Bool.not_and, Bool.or_eq_true, Bool.or_eq_false_iff, Bool.not_or, Bool.not_not, Bool.not_eq_true', Bool.not_eq_false', Bool.not_eq_true, Bool.not_eq_false] at hb325)
  have hnm : nmO (LS.getD 1 (⟨#[]⟩ : ByteArray)) w2B = true := by rw [← rnm_O]; exact hb325
  refine gS hK319 ?_
  refine gR fun K346 hK346 => ?_
  refine Vm H345 fun _ H348 => ?_
  refine V H348 (op_eqi rfl (H348.ev rfl) (ev_c _ _)) fun _ H350 => ?_
  clear H345 H348
  have H351 := H350.lit (b := false) (by decide)
  clear H350
  refine gE hK346 ?_
  refine gw_cond H351 rfl (fun hb352 => ?_) (fun hb352 => ?_)
  ·
   cases hb352
  refine wp_region_lit ?_
  refine Vm H351 fun _ H354 => ?_
  clear H351
  have H355 := H354.conv (v' := .string (nmB (LS.getD 1 (⟨#[]⟩ : ByteArray)) w2B)) (congrArg Value.string (rnm_B hnm))
  clear H354
  refine Vf H355 (gwfld29_1 _ _) fun _ H357 => ?_
  clear H355
  refine gw_set 1 H357 O318 rfl (want_none rfl) rfl (op_store1 gwsiz9 rfl (H357.ev rfl) (H357.ev rfl) rfl (blk_at (O318.get 1 rfl) rfl) (blkf (O318.get 1 rfl))) ?_
  intro _ w360 H359 O361; clear H357 O318
  refine wpList_nil ?_
  refine gw_blk ?_
  refine gw_nx (hK242 _ _ ?_)
  refine wp_region_lit ?_
  refine Vm H359 fun _ H363 => ?_
  refine V H363 (op_add rfl (H363.ev rfl) (ev_c _ _) (by omega)) fun _ H365 => ?_
  refine Va H365 fun _ H367 => ?_
  clear H359 H363 H365
  refine wpList_nil ?_
  have O368 := O361.unpin 0 rfl
  clear O361
  have O369 : Own w w360 [Chunk.view Kd.string S75 A74 (([(⟨#[84, 101, 115, 116, 32, 114, 117, 110, 32, 111, 102, 32]⟩ : ByteArray), (⟨#[66, 111, 97, 114, 100, 32]⟩ : ByteArray)]).length) (([(⟨#[84, 101, 115, 116, 32, 114, 117, 110, 32, 111, 102, 32]⟩ : ByteArray), (⟨#[66, 111, 97, 114, 100, 32]⟩ : ByteArray)]).length) ([(⟨#[84, 101, 115, 116, 32, 114, 117, 110, 32, 111, 102, 32]⟩ : ByteArray), (⟨#[66, 111, 97, 114, 100, 32]⟩ : ByteArray)]), Bk g63 [.string su, .string (nmB (LS.getD 1 (⟨#[]⟩ : ByteArray)) w2B), .slice none 0 0] 29, Chunk.viewAt w269 Kd.string S17 A15 ((LS ++ remL rem).length) c16 (LS ++ remL rem), Bk g2 [.string (⟨#[]⟩ : ByteArray), .string (⟨#[]⟩ : ByteArray), .slice none 0 0] 29] := O368
  clear O368
  have O370 := O369.unpin 2 rfl
  clear O369
  have O371 : Own w w360 [Chunk.view Kd.string S75 A74 (([(⟨#[84, 101, 115, 116, 32, 114, 117, 110, 32, 111, 102, 32]⟩ : ByteArray), (⟨#[66, 111, 97, 114, 100, 32]⟩ : ByteArray)]).length) (([(⟨#[84, 101, 115, 116, 32, 114, 117, 110, 32, 111, 102, 32]⟩ : ByteArray), (⟨#[66, 111, 97, 114, 100, 32]⟩ : ByteArray)]).length) ([(⟨#[84, 101, 115, 116, 32, 114, 117, 110, 32, 111, 102, 32]⟩ : ByteArray), (⟨#[66, 111, 97, 114, 100, 32]⟩ : ByteArray)]), Bk g63 [.string su, .string (nmB (LS.getD 1 (⟨#[]⟩ : ByteArray)) w2B), .slice none 0 0] 29, Chunk.view Kd.string S17 A15 ((LS ++ remL rem).length) c16 (LS ++ remL rem), Bk g2 [.string (⟨#[]⟩ : ByteArray), .string (⟨#[]⟩ : ByteArray), .slice none 0 0] 29] := O370
  clear O370
  refine gw_nx ⟨_, ?_, 1 + 1, su, (nmB (LS.getD 1 (⟨#[]⟩ : ByteArray)) w2B), (H367.pick (t := 10) rfl (H367.pick (t := 7) rfl (H367.pick (t := 2) rfl (H367.pick (t := 5) rfl (H367.pick (t := 6) rfl (H367.pick (t := 8) rfl (H367.pick (t := 9) rfl H367.nil))))))), O371.sel [0, 1, 2, 3] (by decide), ?_, ?_, ?_, rfl⟩
  ·
   rw [hm95]; omega
  ·
   omega
  ·
   exact fun _ => h0 (by decide)
  exact fun _ => ⟨by omega, hnm, rfl⟩
 refine gw_seq fun K372 hK372 => ?_
 refine gR fun K373 hK373 => ?_
 refine Vm H93 fun _ H375 => ?_
 refine V H375 (op_lss rfl (H375.ev rfl) (ev_c _ _)) fun _ H377 => ?_
 clear H93 H375
 have H378 := H377.lit (b := false) (by decide)
 clear H377
 refine gE hK373 ?_
 refine gw_cond H378 rfl (fun hb379 => ?_) (fun hb379 => ?_)
 ·
  cases hb379
 refine wp_exit ?_
 refine gw_thx ?_
 refine gw_thx ?_
 refine gw_in ?_
 refine gw_nx (hK85 _ _ ?_)
 obtain ⟨h2L, hn1, hbo⟩ := h1 (by decide)
 obtain ⟨h1L, hn0, hsu⟩ := h0 (by decide)
 have hbb := bfL_b LS h2L
 have hzb : szP (bfL LS).1 := szP_few _ (by omega)
 refine gw_joinS (fun a_ w_ => ∃ (gx : Nat) (Ax : Option Addr) (cx : Nat) (Sx : Nat → Prop), Fr 110 a_ [(13, .pointer (some ⟨gx, 0, none⟩)), (14, J ((bfL LS).2)), (7, J (LS.length : Int)), (2, .pointer (some ⟨g2, 0, none⟩)), (5, .slice A15 ((LS ++ remL rem).length) c16), (6, .bool (decide (rem = (⟨#[]⟩ : ByteArray))))] ∧ Own w w_ [Bk gx [.string su, .string bo, .slice Ax (((bfL LS).1.map cv).length) cx] 29, Chunk.view k53 Sx Ax (((bfL LS).1.map cv).length) cx ((bfL LS).1.map cv), Chunk.view Kd.string S75 A74 (([(⟨#[84, 101, 115, 116, 32, 114, 117, 110, 32, 111, 102, 32]⟩ : ByteArray), (⟨#[66, 111, 97, 114, 100, 32]⟩ : ByteArray)]).length) (([(⟨#[84, 101, 115, 116, 32, 114, 117, 110, 32, 111, 102, 32]⟩ : ByteArray), (⟨#[66, 111, 97, 114, 100, 32]⟩ : ByteArray)]).length) ([(⟨#[84, 101, 115, 116, 32, 114, 117, 110, 32, 111, 102, 32]⟩ : ByteArray), (⟨#[66, 111, 97, 114, 100, 32]⟩ : ByteArray)]), Bk g63 [.string su, .string bo, .slice none 0 0] 29, Chunk.view Kd.string S17 A15 ((LS ++ remL rem).length) c16 (LS ++ remL rem), Bk g2 [.string (⟨#[]⟩ : ByteArray), .string (⟨#[]⟩ : ByteArray), .slice none 0 0] 29]) ?_ ?_
 ·
  have O380 := O94.pin 0 rfl
  clear O94
  have O381 : Own w w92 [Chunk.viewAt w92 Kd.string S75 A74 (([(⟨#[84, 101, 115, 116, 32, 114, 117, 110, 32, 111, 102, 32]⟩ : ByteArray), (⟨#[66, 111, 97, 114, 100, 32]⟩ : ByteArray)]).length) (([(⟨#[84, 101, 115, 116, 32, 114, 117, 110, 32, 111, 102, 32]⟩ : ByteArray), (⟨#[66, 111, 97, 114, 100, 32]⟩ : ByteArray)]).length) ([(⟨#[84, 101, 115, 116, 32, 114, 117, 110, 32, 111, 102, 32]⟩ : ByteArray), (⟨#[66, 111, 97, 114, 100, 32]⟩ : ByteArray)]), Bk g63 [.string su, .string bo, .slice none 0 0] 29, Chunk.view Kd.string S17 A15 ((LS ++ remL rem).length) c16 (LS ++ remL rem), Bk g2 [.string (⟨#[]⟩ : ByteArray), .string (⟨#[]⟩ : ByteArray), .slice none 0 0] 29] := O380
  clear O380
  have O382 := O381.pin 2 rfl
  clear O381
  have O383 : Own w w92 [Chunk.viewAt w92 Kd.string S75 A74 (([(⟨#[84, 101, 115, 116, 32, 114, 117, 110, 32, 111, 102, 32]⟩ : ByteArray), (⟨#[66, 111, 97, 114, 100, 32]⟩ : ByteArray)]).length) (([(⟨#[84, 101, 115, 116, 32, 114, 117, 110, 32, 111, 102, 32]⟩ : ByteArray), (⟨#[66, 111, 97, 114, 100, 32]⟩ : ByteArray)]).length) ([(⟨#[84, 101, 115, 116, 32, 114, 117, 110, 32, 111, 102, 32]⟩ : ByteArray), (⟨#[66, 111, 97, 114, 100, 32]⟩ : ByteArray)]), Bk g63 [.string su, .string bo, .slice none 0 0] 29, Chunk.viewAt w92 Kd.string S17 A15 ((LS ++ remL rem).length) c16 (LS ++ remL rem), Bk g2 [.string (⟨#[]⟩ : ByteArray), .string (⟨#[]⟩ : ByteArray), .slice none 0 0] 29] := O382
  clear O382
  refine gx_draw (M := [Chunk.viewAt w92 Kd.string S75 A74 (([(⟨#[84, 101, 115, 116, 32, 114, 117, 110, 32, 111, 102, 32]⟩ : ByteArray), (⟨#[66, 111, 97, 114, 100, 32]⟩ : ByteArray)]).length) (([(⟨#[84, 101, 115, 116, 32, 114, 117, 110, 32, 111, 102, 32]⟩ : ByteArray), (⟨#[66, 111, 97, 114, 100, 32]⟩ : ByteArray)]).length) ([(⟨#[84, 101, 115, 116, 32, 114, 117, 110, 32, 111, 102, 32]⟩ : ByteArray), (⟨#[66, 111, 97, 114, 100, 32]⟩ : ByteArray)]), Bk g63 [.string su, .string bo, .slice none 0 0] 29, Chunk.viewAt w92 Kd.string S17 A15 ((LS ++ remL rem).length) c16 (LS ++ remL rem), Bk g2 [.string (⟨#[]⟩ : ByteArray), .string (⟨#[]⟩ : ByteArray), .slice none 0 0] 29]) (fun j_ => false) O383 (by kernel_rfl) fun w384 O385 => ?_
  clear O383
  refine gx_take 0 rfl (by kernel_rfl) H378 (by exact O385.sel [0, 1, 2, 3] (by decide)) (want_none rfl) rfl (by decide) (fun wq HO => (op_loadn gwagg29 gwsiz29 rfl (H378.ev rfl) (HO.get 1 rfl) rfl rfl)) ?_
  intro _ H387; clear H378
  refine gx_take 1 rfl (by kernel_rfl) H387 (by exact O385.sel [0, 1, 2, 3] (by decide)) (want_none rfl) rfl (by decide) (fun wq HO => (op_move rfl (H387.ev rfl))) ?_
  intro _ H389; clear H387
  refine gx_take 2 rfl (by kernel_rfl) H389 (by exact O385.sel [0, 1, 2, 3] (by decide)) (want_none rfl) rfl (by decide) (fun wq HO => (op_move rfl (H389.ev rfl))) ?_
  intro _ H391; clear H389
  obtain ⟨hr392, hc393, hC394⟩ := cut_hi (P := Tryd.prog) (d := Kd.string) (t := 58) (e := 9) Tryd.underlying58 gwsiz9 A15 c16 (LS ++ remL rem) (viewAt_le (O385.get 2 rfl)) (LS.length : Int) (by omega) (by omega)
  refine gx_take 3 rfl (by kernel_rfl) H391 (by exact O385.sel [0, 1, 2, 3] (by decide)) (want_none rfl) rfl (by decide) (fun wq HO => (op_cut Tryd.underlying58 hr392 rfl (H391.ev rfl) rfl (some_ev (H391.ev rfl)))) ?_
  intro _ H396; clear H391
  have H397 := H396.conv (v' := .slice A15 LS.length c16) (congrArg (fun n_ : Nat => Value.slice A15 n_ c16) (congrArg List.length (take_rem LS rem)))
  clear H396
  refine gx_two 4 8 rfl rfl (by kernel_rfl) ?_ ?_
  ·
   refine Wk H397 Tryd.func37 rfl (ar_cons (H397.ev rfl) (ar_cons (H397.ev rfl) ar_nil)) (body_calls su bo A15 c16 LS _ (take_rem_C (hC394 _ (viewAt_C (O385.get 2 rfl)))) (by have h_ := hc393; rw [take_rem] at h_; exact h_) (by omega) (by omega) (fun j_ => Nat.le_trans (line_le LS rem j_) (by omega))) ?_
   rintro e401 w402 ⟨A398, c399, S400, rfl, hb403⟩
   refine ⟨_, rfl, fun _ H405 => ?_⟩
   have O406 := O385.fresh hb403
   clear H397 O385 hb403
   refine gx_on (i := 4) (B := (fun j_ => false)) (fun _ => (by exact O406.sel [1, 2, 3, 4] (by decide))) ?_
   refine gx_take 5 rfl (by kernel_rfl) H405 (by exact O406.sel [1, 2, 3, 4] (by decide)) (want_none rfl) rfl (by decide) (fun wq HO => (op_move rfl (H405.ev rfl))) ?_
   intro _ H409; clear H405
   refine gx_take 6 rfl (by kernel_rfl) H409 (by exact O406.sel [1, 2, 3, 4] (by decide)) (want_none rfl) rfl (by decide) (fun wq HO => (op_extract rfl (H409.ev rfl) rfl)) ?_
   intro _ H411; clear H409
   refine gx_take 7 rfl (by kernel_rfl) H411 (by exact O406.sel [1, 2, 3, 4] (by decide)) (want_none rfl) rfl (by decide) (fun wq HO => (op_extract rfl (H411.ev rfl) rfl)) ?_
   intro _ H413; clear H411
   refine gx_step 8 rfl (by kernel_rfl) ?_
   refine gw_new H413 O406 (want_none rfl) rfl (by decide) (op_alloc gwzer29 rfl) ?_
   intro g414 _ w416 H417 O418; clear H413 O406
   have O419 : Own w w416 [Bk g414 [.string (⟨#[]⟩ : ByteArray), .string (⟨#[]⟩ : ByteArray), .slice none 0 0] 29, Chunk.view k53 S400 A398 (((bfL LS).1.map cv).length) c399 ((bfL LS).1.map cv), Chunk.viewAt w92 Kd.string S75 A74 (([(⟨#[84, 101, 115, 116, 32, 114, 117, 110, 32, 111, 102, 32]⟩ : ByteArray), (⟨#[66, 111, 97, 114, 100, 32]⟩ : ByteArray)]).length) (([(⟨#[84, 101, 115, 116, 32, 114, 117, 110, 32, 111, 102, 32]⟩ : ByteArray), (⟨#[66, 111, 97, 114, 100, 32]⟩ : ByteArray)]).length) ([(⟨#[84, 101, 115, 116, 32, 114, 117, 110, 32, 111, 102, 32]⟩ : ByteArray), (⟨#[66, 111, 97, 114, 100, 32]⟩ : ByteArray)]), Bk g63 [.string su, .string bo, .slice none 0 0] 29, Chunk.viewAt w92 Kd.string S17 A15 ((LS ++ remL rem).length) c16 (LS ++ remL rem), Bk g2 [.string (⟨#[]⟩ : ByteArray), .string (⟨#[]⟩ : ByteArray), .slice none 0 0] 29] := O418
   clear O418
   refine gx_on (i := 8) (B := (fun j_ => false)) (fun _ => (by exact O419.sel [2, 3, 4, 5] (by decide))) ?_
   refine gx_step 9 rfl (by kernel_rfl) ?_
   refine gw_setn 0 H417 O419 rfl (want_none rfl) rfl (op_storen gwsiz29 rfl (H417.ev rfl) (H417.ev rfl) (O419.get 0 rfl) rfl (by simp) (by simp [Value.oneCell'])) ?_
   intro _ w422 H421 O423; clear H417 O419
   refine gx_on (i := 9) (B := (fun j_ => false)) (fun _ => (by exact O423.sel [2, 3, 4, 5] (by decide))) ?_
   refine gx_take 10 rfl (by kernel_rfl) H421 (by exact O423.sel [2, 3, 4, 5] (by decide)) (want_none rfl) rfl (by decide) (fun wq HO => (op_assign rfl (H421.ev rfl))) ?_
   intro _ H425; clear H421
   refine gx_done (by kernel_rfl) ?_
   have O426 := O423.unpin 2 rfl
   clear O423
   have O427 : Own w w422 [Bk g414 [.string su, .string bo, .slice A398 (((bfL LS).1.map cv).length) c399] 29, Chunk.view k53 S400 A398 (((bfL LS).1.map cv).length) c399 ((bfL LS).1.map cv), Chunk.view Kd.string S75 A74 (([(⟨#[84, 101, 115, 116, 32, 114, 117, 110, 32, 111, 102, 32]⟩ : ByteArray), (⟨#[66, 111, 97, 114, 100, 32]⟩ : ByteArray)]).length) (([(⟨#[84, 101, 115, 116, 32, 114, 117, 110, 32, 111, 102, 32]⟩ : ByteArray), (⟨#[66, 111, 97, 114, 100, 32]⟩ : ByteArray)]).length) ([(⟨#[84, 101, 115, 116, 32, 114, 117, 110, 32, 111, 102, 32]⟩ : ByteArray), (⟨#[66, 111, 97, 114, 100, 32]⟩ : ByteArray)]), Bk g63 [.string su, .string bo, .slice none 0 0] 29, Chunk.viewAt w92 Kd.string S17 A15 ((LS ++ remL rem).length) c16 (LS ++ remL rem), Bk g2 [.string (⟨#[]⟩ : ByteArray), .string (⟨#[]⟩ : ByteArray), .slice none 0 0] 29] := O426
   clear O426
   have O428 := O427.unpin 4 rfl
   clear O427
   have O429 : Own w w422 [Bk g414 [.string su, .string bo, .slice A398 (((bfL LS).1.map cv).length) c399] 29, Chunk.view k53 S400 A398 (((bfL LS).1.map cv).length) c399 ((bfL LS).1.map cv), Chunk.view Kd.string S75 A74 (([(⟨#[84, 101, 115, 116, 32, 114, 117, 110, 32, 111, 102, 32]⟩ : ByteArray), (⟨#[66, 111, 97, 114, 100, 32]⟩ : ByteArray)]).length) (([(⟨#[84, 101, 115, 116, 32, 114, 117, 110, 32, 111, 102, 32]⟩ : ByteArray), (⟨#[66, 111, 97, 114, 100, 32]⟩ : ByteArray)]).length) ([(⟨#[84, 101, 115, 116, 32, 114, 117, 110, 32, 111, 102, 32]⟩ : ByteArray), (⟨#[66, 111, 97, 114, 100, 32]⟩ : ByteArray)]), Bk g63 [.string su, .string bo, .slice none 0 0] 29, Chunk.view Kd.string S17 A15 ((LS ++ remL rem).length) c16 (LS ++ remL rem), Bk g2 [.string (⟨#[]⟩ : ByteArray), .string (⟨#[]⟩ : ByteArray), .slice none 0 0] 29] := O428
   clear O428
   refine gw_nx ⟨g414, A398, c399, S400, (H425.pick (t := 13) rfl (H425.pick (t := 14) rfl (H425.pick (t := 7) rfl (H425.pick (t := 2) rfl (H425.pick (t := 5) rfl (H425.pick (t := 6) rfl H425.nil)))))), O429.sel [0, 1, 2, 3, 4, 5] (by decide)⟩
  refine gw_new H397 O385 (want_none rfl) rfl (by decide) (op_alloc gwzer29 rfl) ?_
  intro g430 _ w432 H433 O434; clear H397 O385
  have O435 : Own w w432 [Bk g430 [.string (⟨#[]⟩ : ByteArray), .string (⟨#[]⟩ : ByteArray), .slice none 0 0] 29, Chunk.viewAt w92 Kd.string S75 A74 (([(⟨#[84, 101, 115, 116, 32, 114, 117, 110, 32, 111, 102, 32]⟩ : ByteArray), (⟨#[66, 111, 97, 114, 100, 32]⟩ : ByteArray)]).length) (([(⟨#[84, 101, 115, 116, 32, 114, 117, 110, 32, 111, 102, 32]⟩ : ByteArray), (⟨#[66, 111, 97, 114, 100, 32]⟩ : ByteArray)]).length) ([(⟨#[84, 101, 115, 116, 32, 114, 117, 110, 32, 111, 102, 32]⟩ : ByteArray), (⟨#[66, 111, 97, 114, 100, 32]⟩ : ByteArray)]), Bk g63 [.string su, .string bo, .slice none 0 0] 29, Chunk.viewAt w92 Kd.string S17 A15 ((LS ++ remL rem).length) c16 (LS ++ remL rem), Bk g2 [.string (⟨#[]⟩ : ByteArray), .string (⟨#[]⟩ : ByteArray), .slice none 0 0] 29] := O434
  clear O434
  refine gx_on (i := 8) (B := (fun j_ => false)) (fun _ => (by exact O435.sel [1, 2, 3, 4] (by decide))) ?_
  refine gx_step 4 rfl (by kernel_rfl) ?_
  refine Wk H433 Tryd.func37 rfl (ar_cons (H433.ev rfl) (ar_cons (H433.ev rfl) ar_nil)) (body_calls su bo A15 c16 LS _ (take_rem_C (hC394 _ (viewAt_C (O435.get 3 rfl)))) (by have h_ := hc393; rw [take_rem] at h_; exact h_) (by omega) (by omega) (fun j_ => Nat.le_trans (line_le LS rem j_) (by omega))) ?_
  rintro e439 w440 ⟨A436, c437, S438, rfl, hb441⟩
  refine ⟨_, rfl, fun _ H443 => ?_⟩
  have O444 := O435.fresh hb441
  clear H433 O435 hb441
  refine gx_on (i := 4) (B := (fun j_ => false)) (fun _ => (by exact O444.sel [2, 3, 4, 5] (by decide))) ?_
  refine gx_take 5 rfl (by kernel_rfl) H443 (by exact O444.sel [2, 3, 4, 5] (by decide)) (want_none rfl) rfl (by decide) (fun wq HO => (op_move rfl (H443.ev rfl))) ?_
  intro _ H447; clear H443
  refine gx_take 6 rfl (by kernel_rfl) H447 (by exact O444.sel [2, 3, 4, 5] (by decide)) (want_none rfl) rfl (by decide) (fun wq HO => (op_extract rfl (H447.ev rfl) rfl)) ?_
  intro _ H449; clear H447
  refine gx_take 7 rfl (by kernel_rfl) H449 (by exact O444.sel [2, 3, 4, 5] (by decide)) (want_none rfl) rfl (by decide) (fun wq HO => (op_extract rfl (H449.ev rfl) rfl)) ?_
  intro _ H451; clear H449
  refine gx_step 9 rfl (by kernel_rfl) ?_
  refine gw_setn 1 H451 O444 rfl (want_none rfl) rfl (op_storen gwsiz29 rfl (H451.ev rfl) (H451.ev rfl) (O444.get 1 rfl) rfl (by simp) (by simp [Value.oneCell'])) ?_
  intro _ w454 H453 O455; clear H451 O444
  refine gx_on (i := 9) (B := (fun j_ => false)) (fun _ => (by exact O455.sel [2, 3, 4, 5] (by decide))) ?_
  refine gx_take 10 rfl (by kernel_rfl) H453 (by exact O455.sel [2, 3, 4, 5] (by decide)) (want_none rfl) rfl (by decide) (fun wq HO => (op_assign rfl (H453.ev rfl))) ?_
  intro _ H457; clear H453
  refine gx_done (by kernel_rfl) ?_
  have O458 := O455.unpin 2 rfl
  clear O455
  have O459 : Own w w454 [Chunk.view k53 S438 A436 (((bfL LS).1.map cv).length) c437 ((bfL LS).1.map cv), Bk g430 [.string su, .string bo, .slice A436 (((bfL LS).1.map cv).length) c437] 29, Chunk.view Kd.string S75 A74 (([(⟨#[84, 101, 115, 116, 32, 114, 117, 110, 32, 111, 102, 32]⟩ : ByteArray), (⟨#[66, 111, 97, 114, 100, 32]⟩ : ByteArray)]).length) (([(⟨#[84, 101, 115, 116, 32, 114, 117, 110, 32, 111, 102, 32]⟩ : ByteArray), (⟨#[66, 111, 97, 114, 100, 32]⟩ : ByteArray)]).length) ([(⟨#[84, 101, 115, 116, 32, 114, 117, 110, 32, 111, 102, 32]⟩ : ByteArray), (⟨#[66, 111, 97, 114, 100, 32]⟩ : ByteArray)]), Bk g63 [.string su, .string bo, .slice none 0 0] 29, Chunk.viewAt w92 Kd.string S17 A15 ((LS ++ remL rem).length) c16 (LS ++ remL rem), Bk g2 [.string (⟨#[]⟩ : ByteArray), .string (⟨#[]⟩ : ByteArray), .slice none 0 0] 29] := O458
  clear O458
  have O460 := O459.unpin 4 rfl
  clear O459
  have O461 : Own w w454 [Chunk.view k53 S438 A436 (((bfL LS).1.map cv).length) c437 ((bfL LS).1.map cv), Bk g430 [.string su, .string bo, .slice A436 (((bfL LS).1.map cv).length) c437] 29, Chunk.view Kd.string S75 A74 (([(⟨#[84, 101, 115, 116, 32, 114, 117, 110, 32, 111, 102, 32]⟩ : ByteArray), (⟨#[66, 111, 97, 114, 100, 32]⟩ : ByteArray)]).length) (([(⟨#[84, 101, 115, 116, 32, 114, 117, 110, 32, 111, 102, 32]⟩ : ByteArray), (⟨#[66, 111, 97, 114, 100, 32]⟩ : ByteArray)]).length) ([(⟨#[84, 101, 115, 116, 32, 114, 117, 110, 32, 111, 102, 32]⟩ : ByteArray), (⟨#[66, 111, 97, 114, 100, 32]⟩ : ByteArray)]), Bk g63 [.string su, .string bo, .slice none 0 0] 29, Chunk.view Kd.string S17 A15 ((LS ++ remL rem).length) c16 (LS ++ remL rem), Bk g2 [.string (⟨#[]⟩ : ByteArray), .string (⟨#[]⟩ : ByteArray), .slice none 0 0] 29] := O460
  clear O460
  refine gw_nx ⟨g430, A436, c437, S438, (H457.pick (t := 13) rfl (H457.pick (t := 14) rfl (H457.pick (t := 7) rfl (H457.pick (t := 2) rfl (H457.pick (t := 5) rfl (H457.pick (t := 6) rfl H457.nil)))))), O461.sel [1, 0, 2, 3, 4, 5] (by decide)⟩
 rintro _ w463 ⟨gx, Ax, cx, Sx, H464, O465⟩
 refine gw_seq fun K466 hK466 => ?_
 refine gR fun K467 hK467 => ?_
 refine Vm H464 fun _ H469 => ?_
 refine Vm H469 fun _ H471 => ?_
 refine V H471 (op_eqi rfl (H471.ev rfl) (H471.ev rfl)) fun _ H473 => ?_
 refine gE hK467 ?_
 clear H464 H469 H471
 refine gw_cond H473 rfl (fun hb474 => ?_) (fun hb474 => ?_)
 ·
  have H475 := H473.subst_ (d := 71) (b := true) rfl hb474
  clear H473
  (try simp only [decide_eq_true_eq] at hb474)
  have hbe : (bfL LS).2 = (LS.length : Int) := hb474
  refine gR fun K476 hK476 => ?_
  refine V H475 (op_build (cells := #[.string (⟨#[]⟩ : ByteArray), .string (⟨#[]⟩ : ByteArray), .slice none 0 0]) rfl pt_nil (by kernel_rfl)) fun _ H478 => ?_
  refine Vm H478 fun _ H480 => ?_
  clear H475 H478
  refine gw_setn 5 H480 O465 rfl (want_none rfl) rfl (op_storen gwsiz29 rfl (H480.ev rfl) (H480.ev rfl) (O465.get 5 rfl) rfl (by simp) (by simp [Value.oneCell'])) ?_
  intro _ w483 H482 O484; clear H480 O465
  refine Vc H482 fun _ H486 => ?_
  refine Va H486 fun _ H488 => ?_
  refine gE hK476 ?_
  refine wp_ret ?_
  clear H482 H486
  refine gw_thr ?_
  refine gw_rets3 H488 rfl (rv_celln H488 rfl gwagg29 gwsiz29 (O484.get 5 rfl) rfl) (rv_tmp H488 rfl) (rv_tmp H488 rfl) ?_
  have hr_ : parseP (catL LS ++ rem) = (none, (LS.length : Int)) := by rw [parse_ref LS rem hno hrem]; exact rp_e h2L hn0 hn1 hsu hbo hbe
  obtain ⟨ho_, hc_, ha_⟩ := told_no hr_
  rw [ho_, hc_, ha_]
  have O489_1 := (O484.row_nil k53 53 w.heap.size).row_view 0 rfl
  exact ⟨none, 0, _, rfl, (O489_1.sel [0] (by decide)).out⟩
 have H490 := H473.subst_ (d := 71) (b := false) rfl hb474
 clear H473
 (try simp only [decide_eq_false_iff_not] at hb474)
 have hbe : ¬ (bfL LS).2 = (LS.length : Int) := hb474
 refine gS hK466 ?_
 refine gR fun K491 hK491 => ?_
 refine V H490 (op_loadn gwagg29 gwsiz29 rfl (H490.ev rfl) (O465.get 0 rfl) rfl rfl) fun _ H493 => ?_
 clear H490
 refine Wk H493 Tryd.func29 rfl (ar_cons (H493.ev rfl) ar_nil) (rlines_calls Ax cx su bo ((bfL LS).1) _ hzb (by omega) (view_C (O465.get 1 rfl)) (view_le (O465.get 1 rfl))) ?_
 rintro e497 w498 ⟨A494, c495, S496, rfl, hb499⟩
 refine ⟨_, rfl, fun _ H501 => ?_⟩
 have O502 := O465.fresh hb499
 clear H493 O465 hb499
 refine Va H501 fun _ H505 => ?_
 refine gE hK491 ?_
 refine gw_seq fun K506 hK506 => ?_
 refine gR fun K507 hK507 => ?_
 refine Vm H505 fun _ H509 => ?_
 refine Va H509 fun _ H511 => ?_
 refine gE hK507 ?_
 clear H501 H505 H509
 refine wp_block ?_
 refine gw_loop (fun m_ a_ w_ => ∃ (j : Int), Fr 110 a_ [(16, J j), (13, .pointer (some ⟨gx, 0, none⟩)), (7, J (LS.length : Int)), (2, .pointer (some ⟨g2, 0, none⟩)), (5, .slice A15 ((LS ++ remL rem).length) c16), (6, .bool (decide (rem = (⟨#[]⟩ : ByteArray)))), (15, .slice A494 ((linesL su bo (bfL LS).1).length) c495)] ∧ Own w w_ [Chunk.view Kd.string S496 A494 ((linesL su bo (bfL LS).1).length) c495 (linesL su bo (bfL LS).1), Bk gx [.string su, .string bo, .slice Ax (((bfL LS).1.map cv).length) cx] 29, Chunk.view k53 Sx Ax (((bfL LS).1.map cv).length) cx ((bfL LS).1.map cv), Chunk.view Kd.string S75 A74 (([(⟨#[84, 101, 115, 116, 32, 114, 117, 110, 32, 111, 102, 32]⟩ : ByteArray), (⟨#[66, 111, 97, 114, 100, 32]⟩ : ByteArray)]).length) (([(⟨#[84, 101, 115, 116, 32, 114, 117, 110, 32, 111, 102, 32]⟩ : ByteArray), (⟨#[66, 111, 97, 114, 100, 32]⟩ : ByteArray)]).length) ([(⟨#[84, 101, 115, 116, 32, 114, 117, 110, 32, 111, 102, 32]⟩ : ByteArray), (⟨#[66, 111, 97, 114, 100, 32]⟩ : ByteArray)]), Bk g63 [.string su, .string bo, .slice none 0 0] 29, Chunk.view Kd.string S17 A15 ((LS ++ remL rem).length) c16 (LS ++ remL rem), Bk g2 [.string (⟨#[]⟩ : ByteArray), .string (⟨#[]⟩ : ByteArray), .slice none 0 0] 29] ∧ ((bfL LS).2 ≤ j ∧ j ≤ LS.length) ∧ (cmpF (LS.drop j.toNat) ((linesL su bo (bfL LS).1).drop j.toNat) j = cmpF (LS.drop (bfL LS).2.toNat) ((linesL su bo (bfL LS).1).drop (bfL LS).2.toNat) (bfL LS).2) ∧ m_ = (LS.length - j.toNat)) ((LS.length - ((bfL LS).2 : Int).toNat)) ?_ ?_
 ·
  refine ⟨(bfL LS).2, (H511.pick (t := 16) rfl (H511.pick (t := 13) rfl (H511.pick (t := 7) rfl (H511.pick (t := 2) rfl (H511.pick (t := 5) rfl (H511.pick (t := 6) rfl (H511.pick (t := 15) rfl H511.nil))))))), O502.sel [0, 1, 2, 3, 4, 5, 6] (by decide), ?_, ?_, rfl⟩
  ·
   omega
  rfl
 rintro m513 _ w515 ⟨j, H516, O517, hj, hC, hm518⟩
 refine gw_seq fun K519 hK519 => ?_
 refine gR fun K520 hK520 => ?_
 refine Vm H516 fun _ H522 => ?_
 refine Vm H522 fun _ H524 => ?_
 refine V H524 (op_lss rfl (H524.ev rfl) (H524.ev rfl)) fun _ H526 => ?_
 refine gE hK520 ?_
 clear H516 H522 H524
 refine gw_cond H526 rfl (fun hb527 => ?_) (fun hb527 => ?_)
 ·
  have H528 := H526.subst_ (d := 79) (b := true) rfl hb527
  clear H526
  (try simp only [decide_eq_true_eq] at hb527)
  refine gS hK519 ?_
  refine gw_seq fun K529 hK529 => ?_
  refine wp_block ?_
  refine gw_seq fun K530 hK530 => ?_
  refine gw_drawB O517 (by kernel_rfl) (by kernel_rfl) fun w531 O532 => ?_
  clear O517
  refine Vn H528 (op_move rfl (H528.ev rfl)) fun _ H534 => ?_
  refine Vn H534 (op_move rfl (H534.ev rfl)) fun _ H536 => ?_
  refine Vn H536 (op_len Tryd.underlying58 rfl (H536.ev rfl)) fun _ H538 => ?_
  refine Vn H538 (op_geq rfl (H538.ev rfl) (H538.ev rfl)) fun _ H540 => ?_
  refine Vn H540 (op_move rfl (H540.ev rfl)) fun _ H542 => ?_
  clear H528 H534 H536 H538 H540
  rcases Bool.eq_false_or_eq_true (decide ((((linesL su bo (bfL LS).1).length) : Int) ≤ j)) with hb543 | hb543
  ·
   have H544 := H542.subst_ (d := 86) (b := true) rfl hb543
   clear H542
   (try simp only [decide_eq_true_eq] at hb543)
   refine gq_off H544 (wn H544 rfl rfl rfl rfl) rfl (by decide) ?_
   intro _ H546; clear H544
   refine gq_off H546 (wn H546 rfl rfl rfl rfl) rfl (by decide) ?_
   intro _ H548; clear H546
   refine gq_off H548 (wn H548 rfl rfl rfl rfl) rfl (by decide) ?_
   intro _ H550; clear H548
   refine gq_off H550 (wn H550 rfl rfl rfl rfl) rfl (by decide) ?_
   intro _ H552; clear H550
   refine gq_off H552 (wn H552 rfl rfl rfl rfl) rfl (by decide) ?_
   intro _ H554; clear H552
   refine gq_off H554 (wn H554 rfl rfl rfl rfl) rfl (by decide) ?_
   intro _ H556; clear H554
   refine gq_off H556 (wn H556 rfl rfl rfl rfl) rfl (by decide) ?_
   intro _ H558; clear H556
   refine gq_off H558 (wn H558 rfl rfl rfl rfl) rfl (by decide) ?_
   intro _ H560; clear H558
   refine gq_off H560 (wn H560 rfl rfl rfl rfl) rfl (by decide) ?_
   intro _ H562; clear H560
   refine Vn H562 (op_pick_t rfl (H562.ev rfl) (ev_c _ _)) fun _ H564 => ?_
   clear H562
   refine wpQuiet_nil ?_
   intro w565 hq
   have O566 := O532.after hq
   clear O532 hq
   refine gw_nx (hK530 _ _ ?_)
   refine gw_cond H564 rfl (fun hb567 => ?_) (fun hb567 => ?_)
   rotate_left
   ·
    cases hb567
   refine gR fun K568 hK568 => ?_
   refine V H564 (op_build (cells := #[.string (⟨#[]⟩ : ByteArray), .string (⟨#[]⟩ : ByteArray), .slice none 0 0]) rfl pt_nil (by kernel_rfl)) fun _ H570 => ?_
   refine Vm H570 fun _ H572 => ?_
   clear H564 H570
   refine gw_setn 6 H572 O566 rfl (want_none rfl) rfl (op_storen gwsiz29 rfl (H572.ev rfl) (H572.ev rfl) (O566.get 6 rfl) rfl (by simp) (by simp [Value.oneCell'])) ?_
   intro _ w575 H574 O576; clear H572 O566
   refine Vc H574 fun _ H578 => ?_
   refine Va H578 fun _ H580 => ?_
   refine gE hK568 ?_
   refine wp_ret ?_
   clear H574 H578
   refine gw_blr ?_
   refine gw_thr ?_
   refine gw_thr ?_
   refine gw_blr ?_
   refine gw_thr ?_
   refine gw_rets3 H580 rfl (rv_celln H580 rfl gwagg29 gwsiz29 (O576.get 6 rfl) rfl) (rv_tmp H580 rfl) (rv_tmp H580 rfl) ?_
   have hcf : cmpF (LS.drop (bfL LS).2.toNat) ((linesL su bo (bfL LS).1).drop (bfL LS).2.toNat) (bfL LS).2 = some j := by rw [← hC, cmpF_at LS (linesL su bo (bfL LS).1) j (by omega) (by omega), if_neg (by rintro ⟨h1_, h2_⟩; first | omega | exact hne_ (by rw [h2_]))]
   have hr_ : parseP (catL LS ++ rem) = (none, j) := by rw [parse_ref LS rem hno hrem]; exact rp_f h2L hn0 hn1 hsu hbo hbe hcf
   obtain ⟨ho_, hc_, ha_⟩ := told_no hr_
   rw [ho_, hc_, ha_]
   have O581_1 := (O576.row_nil k53 53 w.heap.size).row_view 0 rfl
   exact ⟨none, 0, _, rfl, (O581_1.sel [0] (by decide)).out⟩
  have H582 := H542.subst_ (d := 86) (b := false) rfl hb543
  clear H542
  (try simp only [decide_eq_false_iff_not, Int.not_le] at hb543)
  refine gq_ev H582 (want_yes H582 rfl rfl rfl rfl) rfl (by decide) (fun wq hq => have HO := O532.after hq; (op_move rfl (H582.ev rfl))) fun _ H584 => ?_
  refine gq_ev H584 (want_yes H584 rfl rfl rfl rfl) rfl (by decide) (fun wq hq => have HO := O532.after hq; (op_move rfl (H584.ev rfl))) fun _ H586 => ?_
  clear H582 H584
  have O593 := O532.pin 5 rfl
  clear O532
  have O594 : Own w w531 [Chunk.view Kd.string S496 A494 ((linesL su bo (bfL LS).1).length) c495 (linesL su bo (bfL LS).1), Bk gx [.string su, .string bo, .slice Ax (((bfL LS).1.map cv).length) cx] 29, Chunk.view k53 Sx Ax (((bfL LS).1.map cv).length) cx ((bfL LS).1.map cv), Chunk.view Kd.string S75 A74 (([(⟨#[84, 101, 115, 116, 32, 114, 117, 110, 32, 111, 102, 32]⟩ : ByteArray), (⟨#[66, 111, 97, 114, 100, 32]⟩ : ByteArray)]).length) (([(⟨#[84, 101, 115, 116, 32, 114, 117, 110, 32, 111, 102, 32]⟩ : ByteArray), (⟨#[66, 111, 97, 114, 100, 32]⟩ : ByteArray)]).length) ([(⟨#[84, 101, 115, 116, 32, 114, 117, 110, 32, 111, 102, 32]⟩ : ByteArray), (⟨#[66, 111, 97, 114, 100, 32]⟩ : ByteArray)]), Bk g63 [.string su, .string bo, .slice none 0 0] 29, Chunk.viewAt w531 Kd.string S17 A15 ((LS ++ remL rem).length) c16 (LS ++ remL rem), Bk g2 [.string (⟨#[]⟩ : ByteArray), .string (⟨#[]⟩ : ByteArray), .slice none 0 0] 29] := O593
  clear O593
  obtain ⟨ad587, cs590, hA588, hl591, hK592, hc589, _⟩ := Kd.F_get (viewAt_F (O594.get 5 rfl)) (⟨#[]⟩ : ByteArray) j (by omega) (by omega)
  obtain rfl := str_openF hK592
  clear hl591
  refine gq_ev H586 (want_yes H586 rfl rfl rfl rfl) rfl (by decide) (fun wq hq => have HO := O594.after hq; (op_index Tryd.underlying58 gwsiz9 rfl (H586.ev rfl) (H586.ev rfl) hA588 (⟨by omega, by omega⟩))) fun _ H596 => ?_
  refine gq_ev H596 (want_yes H596 rfl rfl rfl rfl) rfl (by decide) (fun wq hq => have HO := O594.after hq; (op_load1 gwagg9 rfl (H596.ev rfl) (((pin_cells (HO.get 5 rfl) hA588 hc589) 0 _ rfl)))) fun _ H598 => ?_
  clear H586 H596
  have H599 := H598.conv (v' := .string (LS.getD j.toNat (⟨#[]⟩ : ByteArray))) (congrArg Value.string (getD_rem LS rem j (by omega) (by omega)))
  clear H598
  refine gq_ev H599 (want_yes H599 rfl rfl rfl rfl) rfl (by decide) (fun wq hq => have HO := O594.after hq; (op_move rfl (H599.ev rfl))) fun _ H601 => ?_
  refine gq_ev H601 (want_yes H601 rfl rfl rfl rfl) rfl (by decide) (fun wq hq => have HO := O594.after hq; (op_move rfl (H601.ev rfl))) fun _ H603 => ?_
  clear H599 H601
  have O610 := O594.pin 0 rfl
  clear O594
  have O611 : Own w w531 [Chunk.viewAt w531 Kd.string S496 A494 ((linesL su bo (bfL LS).1).length) c495 (linesL su bo (bfL LS).1), Bk gx [.string su, .string bo, .slice Ax (((bfL LS).1.map cv).length) cx] 29, Chunk.view k53 Sx Ax (((bfL LS).1.map cv).length) cx ((bfL LS).1.map cv), Chunk.view Kd.string S75 A74 (([(⟨#[84, 101, 115, 116, 32, 114, 117, 110, 32, 111, 102, 32]⟩ : ByteArray), (⟨#[66, 111, 97, 114, 100, 32]⟩ : ByteArray)]).length) (([(⟨#[84, 101, 115, 116, 32, 114, 117, 110, 32, 111, 102, 32]⟩ : ByteArray), (⟨#[66, 111, 97, 114, 100, 32]⟩ : ByteArray)]).length) ([(⟨#[84, 101, 115, 116, 32, 114, 117, 110, 32, 111, 102, 32]⟩ : ByteArray), (⟨#[66, 111, 97, 114, 100, 32]⟩ : ByteArray)]), Bk g63 [.string su, .string bo, .slice none 0 0] 29, Chunk.viewAt w531 Kd.string S17 A15 ((LS ++ remL rem).length) c16 (LS ++ remL rem), Bk g2 [.string (⟨#[]⟩ : ByteArray), .string (⟨#[]⟩ : ByteArray), .slice none 0 0] 29] := O610
  clear O610
  obtain ⟨ad604, cs607, hA605, hl608, hK609, hc606, _⟩ := Kd.F_get (viewAt_F (O611.get 0 rfl)) (⟨#[]⟩ : ByteArray) j (by omega) (by omega)
  obtain rfl := str_openF hK609
  clear hl608
  refine gq_ev H603 (want_yes H603 rfl rfl rfl rfl) rfl (by decide) (fun wq hq => have HO := O611.after hq; (op_index Tryd.underlying58 gwsiz9 rfl (H603.ev rfl) (H603.ev rfl) hA605 (⟨by omega, by omega⟩))) fun _ H613 => ?_
  refine gq_ev H613 (want_yes H613 rfl rfl rfl rfl) rfl (by decide) (fun wq hq => have HO := O611.after hq; (op_load1 gwagg9 rfl (H613.ev rfl) (((pin_cells (HO.get 0 rfl) hA605 hc606) 0 _ rfl)))) fun _ H615 => ?_
  refine gq_ev H615 (want_yes H615 rfl rfl rfl rfl) rfl (by decide) (fun wq hq => have HO := O611.after hq; (op_nes rfl (H615.ev rfl) (H615.ev rfl))) fun _ H617 => ?_
  refine Vn H617 (op_pick_f rfl (H617.ev rfl) (H617.ev rfl)) fun _ H619 => ?_
  clear H603 H613 H615 H617
  refine wpQuiet_nil ?_
  intro w620 hq
  have O621 := O611.after hq
  clear O611 hq
  refine gw_nx (hK530 _ _ ?_)
  refine gw_cond H619 rfl (fun hb622 => ?_) (fun hb622 => ?_)
  ·
   have H623 := H619.subst_ (d := 96) (b := true) rfl hb622
   clear H619
   (try simp only [Bool.and_eq_true, Bool.and_eq_false_iff, Bool.not_and, Bool.or_eq_true, Bool.or_eq_false_iff, Bool.not_or, Bool.not_not, Bool.not_eq_true', Bool.not_eq_false', Bool.not_eq_true, Bool.not_eq_false, beq_iff_eq, beq_eq_false_iff_ne, ne_eq] at hb622)
   have hne_ : ¬ (LS.getD j.toNat (⟨#[]⟩ : ByteArray)).toList = ((linesL su bo (bfL LS).1).getD j.toNat (⟨#[]⟩ : ByteArray)).toList := by have hb_ := hb622; simpa using hb_
   refine gR fun K624 hK624 => ?_
   refine V H623 (op_build (cells := #[.string (⟨#[]⟩ : ByteArray), .string (⟨#[]⟩ : ByteArray), .slice none 0 0]) rfl pt_nil (by kernel_rfl)) fun _ H626 => ?_
   refine Vm H626 fun _ H628 => ?_
   clear H623 H626
   refine gw_setn 6 H628 O621 rfl (want_none rfl) rfl (op_storen gwsiz29 rfl (H628.ev rfl) (H628.ev rfl) (O621.get 6 rfl) rfl (by simp) (by simp [Value.oneCell'])) ?_
   intro _ w631 H630 O632; clear H628 O621
   refine Vc H630 fun _ H634 => ?_
   refine Va H634 fun _ H636 => ?_
   refine gE hK624 ?_
   refine wp_ret ?_
   clear H630 H634
   refine gw_blr ?_
   refine gw_thr ?_
   refine gw_thr ?_
   refine gw_blr ?_
   refine gw_thr ?_
   have O637 := O632.unpin 0 rfl
   clear O632
   have O638 : Own w w631 [Chunk.view Kd.string S496 A494 ((linesL su bo (bfL LS).1).length) c495 (linesL su bo (bfL LS).1), Bk gx [.string su, .string bo, .slice Ax (((bfL LS).1.map cv).length) cx] 29, Chunk.view k53 Sx Ax (((bfL LS).1.map cv).length) cx ((bfL LS).1.map cv), Chunk.view Kd.string S75 A74 (([(⟨#[84, 101, 115, 116, 32, 114, 117, 110, 32, 111, 102, 32]⟩ : ByteArray), (⟨#[66, 111, 97, 114, 100, 32]⟩ : ByteArray)]).length) (([(⟨#[84, 101, 115, 116, 32, 114, 117, 110, 32, 111, 102, 32]⟩ : ByteArray), (⟨#[66, 111, 97, 114, 100, 32]⟩ : ByteArray)]).length) ([(⟨#[84, 101, 115, 116, 32, 114, 117, 110, 32, 111, 102, 32]⟩ : ByteArray), (⟨#[66, 111, 97, 114, 100, 32]⟩ : ByteArray)]), Bk g63 [.string su, .string bo, .slice none 0 0] 29, Chunk.viewAt w531 Kd.string S17 A15 ((LS ++ remL rem).length) c16 (LS ++ remL rem), Bk g2 [.string (⟨#[]⟩ : ByteArray), .string (⟨#[]⟩ : ByteArray), .slice none 0 0] 29] := O637
   clear O637
   have O639 := O638.unpin 5 rfl
   clear O638
   have O640 : Own w w631 [Chunk.view Kd.string S496 A494 ((linesL su bo (bfL LS).1).length) c495 (linesL su bo (bfL LS).1), Bk gx [.string su, .string bo, .slice Ax (((bfL LS).1.map cv).length) cx] 29, Chunk.view k53 Sx Ax (((bfL LS).1.map cv).length) cx ((bfL LS).1.map cv), Chunk.view Kd.string S75 A74 (([(⟨#[84, 101, 115, 116, 32, 114, 117, 110, 32, 111, 102, 32]⟩ : ByteArray), (⟨#[66, 111, 97, 114, 100, 32]⟩ : ByteArray)]).length) (([(⟨#[84, 101, 115, 116, 32, 114, 117, 110, 32, 111, 102, 32]⟩ : ByteArray), (⟨#[66, 111, 97, 114, 100, 32]⟩ : ByteArray)]).length) ([(⟨#[84, 101, 115, 116, 32, 114, 117, 110, 32, 111, 102, 32]⟩ : ByteArray), (⟨#[66, 111, 97, 114, 100, 32]⟩ : ByteArray)]), Bk g63 [.string su, .string bo, .slice none 0 0] 29, Chunk.view Kd.string S17 A15 ((LS ++ remL rem).length) c16 (LS ++ remL rem), Bk g2 [.string (⟨#[]⟩ : ByteArray), .string (⟨#[]⟩ : ByteArray), .slice none 0 0] 29] := O639
   clear O639
   refine gw_rets3 H636 rfl (rv_celln H636 rfl gwagg29 gwsiz29 (O640.get 6 rfl) rfl) (rv_tmp H636 rfl) (rv_tmp H636 rfl) ?_
   have hcf : cmpF (LS.drop (bfL LS).2.toNat) ((linesL su bo (bfL LS).1).drop (bfL LS).2.toNat) (bfL LS).2 = some j := by rw [← hC, cmpF_at LS (linesL su bo (bfL LS).1) j (by omega) (by omega), if_neg (by rintro ⟨h1_, h2_⟩; first | omega | exact hne_ (by rw [h2_]))]
   have hr_ : parseP (catL LS ++ rem) = (none, j) := by rw [parse_ref LS rem hno hrem]; exact rp_f h2L hn0 hn1 hsu hbo hbe hcf
   obtain ⟨ho_, hc_, ha_⟩ := told_no hr_
   rw [ho_, hc_, ha_]
   have O641_1 := (O640.row_nil k53 53 w.heap.size).row_view 0 rfl
   exact ⟨none, 0, _, rfl, (O641_1.sel [0] (by decide)).out⟩
  have H642 := H619.subst_ (d := 96) (b := false) rfl hb622
  clear H619
  (try simp only [Bool.and_eq_true, Bool.and_eq_false_iff, Bool.not_and, Bool.or_eq_true, Bool.or_eq_false_iff, Bool.not_or, Bool.not_not, Bool.not_eq_true', Bool.not_eq_false', Bool.not_eq_true, Bool.not_eq_false, beq_iff_eq, beq_eq_false_iff_ne, ne_eq] at hb622)
  have heq_ : (linesL su bo (bfL LS).1).getD j.toNat (⟨#[]⟩ : ByteArray) = LS.getD j.toNat (⟨#[]⟩ : ByteArray) := by have hb_ := hb622; exact (Pure.bytes_eq (by simpa using hb_)).symm
  refine wp_skip ?_
  refine gw_blk ?_
  refine gw_nx (hK529 _ _ ?_)
  refine wp_region_lit ?_
  refine Vm H642 fun _ H644 => ?_
  refine V H644 (op_add rfl (H644.ev rfl) (ev_c _ _) (by omega)) fun _ H646 => ?_
  refine Va H646 fun _ H648 => ?_
  clear H642 H644 H646
  refine wpList_nil ?_
  have O649 := O621.unpin 0 rfl
  clear O621
  have O650 : Own w w620 [Chunk.view Kd.string S496 A494 ((linesL su bo (bfL LS).1).length) c495 (linesL su bo (bfL LS).1), Bk gx [.string su, .string bo, .slice Ax (((bfL LS).1.map cv).length) cx] 29, Chunk.view k53 Sx Ax (((bfL LS).1.map cv).length) cx ((bfL LS).1.map cv), Chunk.view Kd.string S75 A74 (([(⟨#[84, 101, 115, 116, 32, 114, 117, 110, 32, 111, 102, 32]⟩ : ByteArray), (⟨#[66, 111, 97, 114, 100, 32]⟩ : ByteArray)]).length) (([(⟨#[84, 101, 115, 116, 32, 114, 117, 110, 32, 111, 102, 32]⟩ : ByteArray), (⟨#[66, 111, 97, 114, 100, 32]⟩ : ByteArray)]).length) ([(⟨#[84, 101, 115, 116, 32, 114, 117, 110, 32, 111, 102, 32]⟩ : ByteArray), (⟨#[66, 111, 97, 114, 100, 32]⟩ : ByteArray)]), Bk g63 [.string su, .string bo, .slice none 0 0] 29, Chunk.viewAt w531 Kd.string S17 A15 ((LS ++ remL rem).length) c16 (LS ++ remL rem), Bk g2 [.string (⟨#[]⟩ : ByteArray), .string (⟨#[]⟩ : ByteArray), .slice none 0 0] 29] := O649
  clear O649
  have O651 := O650.unpin 5 rfl
  clear O650
  have O652 : Own w w620 [Chunk.view Kd.string S496 A494 ((linesL su bo (bfL LS).1).length) c495 (linesL su bo (bfL LS).1), Bk gx [.string su, .string bo, .slice Ax (((bfL LS).1.map cv).length) cx] 29, Chunk.view k53 Sx Ax (((bfL LS).1.map cv).length) cx ((bfL LS).1.map cv), Chunk.view Kd.string S75 A74 (([(⟨#[84, 101, 115, 116, 32, 114, 117, 110, 32, 111, 102, 32]⟩ : ByteArray), (⟨#[66, 111, 97, 114, 100, 32]⟩ : ByteArray)]).length) (([(⟨#[84, 101, 115, 116, 32, 114, 117, 110, 32, 111, 102, 32]⟩ : ByteArray), (⟨#[66, 111, 97, 114, 100, 32]⟩ : ByteArray)]).length) ([(⟨#[84, 101, 115, 116, 32, 114, 117, 110, 32, 111, 102, 32]⟩ : ByteArray), (⟨#[66, 111, 97, 114, 100, 32]⟩ : ByteArray)]), Bk g63 [.string su, .string bo, .slice none 0 0] 29, Chunk.view Kd.string S17 A15 ((LS ++ remL rem).length) c16 (LS ++ remL rem), Bk g2 [.string (⟨#[]⟩ : ByteArray), .string (⟨#[]⟩ : ByteArray), .slice none 0 0] 29] := O651
  clear O651
  refine gw_nx ⟨_, ?_, j + 1, (H648.pick (t := 16) rfl (H648.pick (t := 13) rfl (H648.pick (t := 7) rfl (H648.pick (t := 2) rfl (H648.pick (t := 5) rfl (H648.pick (t := 6) rfl (H648.pick (t := 15) rfl H648.nil))))))), O652.sel [0, 1, 2, 3, 4, 5, 6] (by decide), ?_, ?_, rfl⟩
  ·
   rw [hm518]; omega
  ·
   omega
  rw [← hC, cmpF_at LS (linesL su bo (bfL LS).1) j (by omega) (by omega), if_pos ⟨by omega, heq_⟩]
 have H653 := H526.subst_ (d := 79) (b := false) rfl hb527
 clear H526
 (try simp only [decide_eq_false_iff_not, Int.not_lt] at hb527)
 refine wp_exit ?_
 refine gw_thx ?_
 refine gw_thx ?_
 refine gw_in ?_
 refine gw_nx (hK506 _ _ ?_)
 refine gw_seq fun K654 hK654 => ?_
 refine gR fun K655 hK655 => ?_
 refine Vm H653 fun _ H657 => ?_
 refine Vm H657 fun _ H659 => ?_
 refine V H659 (op_len Tryd.underlying58 rfl (H659.ev rfl)) fun _ H661 => ?_
 refine V H661 (op_lss rfl (H661.ev rfl) (H661.ev rfl)) fun _ H663 => ?_
 refine Vm H663 fun _ H665 => ?_
 clear H653 H657 H659 H661 H663
 refine gw_evG H665 rfl rfl rfl rfl (on_f _) rfl (by decide) (fun h_ => (op_move rfl (H665.ev rfl))) ?_
 intro _ H667; clear H665
 refine gw_evG H667 rfl rfl rfl rfl (on_f _) rfl (by decide) (fun h_ => (op_not rfl (ev_gv (H667.ev rfl) h_))) ?_
 intro _ H669; clear H667
 refine V H669 (op_pick_or rfl (H669.ev rfl) (ev_c _ _) (fun hp_ => (ev_gv (H669.ev rfl) (not_t hp_)))) fun _ H671 => ?_
 refine gE hK655 ?_
 clear H669
 refine gw_cond H671 rfl (fun hb672 => ?_) (fun hb672 => ?_)
 ·
  have H673 := H671.subst_ (d := 106) (b := true) rfl hb672
  clear H671
  (try simp only [Bool.and_eq_true, Bool.and_eq_false_iff, Bool.not_and, Bool.or_eq_true, Bool.or_eq_false_iff, Bool.not_or, Bool.not_not, Bool.not_eq_true', Bool.not_eq_false', Bool.not_eq_true, Bool.not_eq_false, decide_eq_true_eq, decide_eq_false_iff_not, Int.not_lt] at hb672)
  have hg : ((LS.length < (linesL su bo (bfL LS).1).length) ∨ decide (rem = (⟨#[]⟩ : ByteArray)) = false) := by have hb_ := hb672; by_cases hrm_ : rem = (⟨#[]⟩ : ByteArray) <;> simp [hrm_] at hb_ ⊢ <;> omega
  refine gR fun K674 hK674 => ?_
  refine V H673 (op_build (cells := #[.string (⟨#[]⟩ : ByteArray), .string (⟨#[]⟩ : ByteArray), .slice none 0 0]) rfl pt_nil (by kernel_rfl)) fun _ H676 => ?_
  refine Vm H676 fun _ H678 => ?_
  clear H673 H676
  refine gw_setn 6 H678 O517 rfl (want_none rfl) rfl (op_storen gwsiz29 rfl (H678.ev rfl) (H678.ev rfl) (O517.get 6 rfl) rfl (by simp) (by simp [Value.oneCell'])) ?_
  intro _ w681 H680 O682; clear H678 O517
  refine Vc H680 fun _ H684 => ?_
  refine Va H684 fun _ H686 => ?_
  refine gE hK674 ?_
  refine wp_ret ?_
  clear H680 H684
  refine gw_thr ?_
  refine gw_rets3 H686 rfl (rv_celln H686 rfl gwagg29 gwsiz29 (O682.get 6 rfl) rfl) (rv_tmp H686 rfl) (rv_tmp H686 rfl) ?_
  have hcn : cmpF (LS.drop (bfL LS).2.toNat) ((linesL su bo (bfL LS).1).drop (bfL LS).2.toNat) (bfL LS).2 = none := by rw [← hC, List.drop_eq_nil_of_le (by omega)]; rfl
  have hr_ : parseP (catL LS ++ rem) = (none, (LS.length : Int)) := by rw [parse_ref LS rem hno hrem]; exact rp_g h2L hn0 hn1 hsu hbo hbe hcn hg
  obtain ⟨ho_, hc_, ha_⟩ := told_no hr_
  rw [ho_, hc_, ha_]
  have O687_1 := (O682.row_nil k53 53 w.heap.size).row_view 0 rfl
  exact ⟨none, 0, _, rfl, (O687_1.sel [0] (by decide)).out⟩
 have H688 := H671.subst_ (d := 106) (b := false) rfl hb672
 clear H671
 (try simp only [Bool.and_eq_true, Bool.and_eq_false_iff, Bool.not_and, Bool.or_eq_true, Bool.or_eq_false_iff, Bool.not_or, Bool.not_not, Bool.not_eq_true', Bool.not_eq_false', Bool.not_eq_true, Bool.not_eq_false, decide_eq_true_eq, decide_eq_false_iff_not, Int.not_lt] at hb672)
 have hg : ¬ ((LS.length < (linesL su bo (bfL LS).1).length) ∨ decide (rem = (⟨#[]⟩ : ByteArray)) = false) := by have hb_ := hb672; by_cases hrm_ : rem = (⟨#[]⟩ : ByteArray) <;> simp [hrm_] at hb_ ⊢ <;> omega
 refine gS hK654 ?_
 refine gR fun K689 hK689 => ?_
 refine V H688 (op_loadn gwagg29 gwsiz29 rfl (H688.ev rfl) (O517.get 1 rfl) rfl rfl) fun _ H691 => ?_
 clear H688
 refine gw_setn 6 H691 O517 rfl (want_none rfl) rfl (op_storen gwsiz29 rfl (H691.ev rfl) (H691.ev rfl) (O517.get 6 rfl) rfl (by simp) (by simp [Value.oneCell'])) ?_
 intro _ w694 H693 O695; clear H691 O517
 refine Vc H693 fun _ H697 => ?_
 refine Vc H697 fun _ H699 => ?_
 refine gE hK689 ?_
 refine wp_ret ?_
 clear H693 H697
 refine gw_rets3 H699 rfl (rv_celln H699 rfl gwagg29 gwsiz29 (O695.get 6 rfl) rfl) (rv_tmp H699 rfl) (rv_tmp H699 rfl) ?_
 have hcn : cmpF (LS.drop (bfL LS).2.toNat) ((linesL su bo (bfL LS).1).drop (bfL LS).2.toNat) (bfL LS).2 = none := by rw [← hC, List.drop_eq_nil_of_le (by omega)]; rfl
 have hr_ : parseP (catL LS ++ rem) = (some (su, bo, (bfL LS).1), 0) := by rw [parse_ref LS rem hno hrem]; exact rp_h h2L hn0 hn1 hsu hbo hbe hcn hg
 obtain ⟨ho_, hc_, ha_⟩ := told_yes hr_
 rw [ho_, hc_, ha_]
 exact ⟨_, _, _, rfl, (O695.sel [2] (by decide)).out⟩
end GRefP_
export GRefP_ (rparse_calls)
namespace GText_
theorem text_calls (su bo : ByteArray) (A0 : Option Addr) (c0 : Nat) (ps : List S46) (w : World) (hr : Kd.C k46 w A0 ps.length ps) (hc : ps.length ≤ c0) (hsm : ps.length + sumL ps ≤ 1000000000) (hL : LaidW w) (hz : szP ps) :
    Calls Tryd.prog 16 #[.agg #[.string su, .string bo, .slice A0 ps.length c0]] w fun e w' => e = .returned (.string (textL su bo ps)) ∧ Below w.heap.size w w' := by
 have hpl := len_C hr
 have hll := lines_len su bo ps
 have hcz : (catL (linesL su bo ps)).size ≤ 140737488355328 := by have h_ := cat_size _ (line_sz su bo ps (by omega)); omega
 refine gw_start (N := 10) (vs := [.agg #[.string su, .string bo, .slice A0 ps.length c0]]) Tryd.func16 rfl rfl (by simp) fun a HF HO => ?_
 replace HO : Own w w [] := HO
 refine gR fun K1 hK1 => ?_
 refine gw_new HF HO (want_none rfl) rfl (by decide) (op_box rfl (HF.ev rfl)) ?_
 intro g2 _ w4 H5 O6; clear HF HO
 have O7 : Own w w4 [Bk g2 [.string su, .string bo, .slice A0 ps.length c0] 24] := O6
 clear O6
 refine Vc H5 fun _ H9 => ?_
 refine gE hK1 ?_
 refine gw_seq fun K10 hK10 => ?_
 refine gR fun K11 hK11 => ?_
 refine V H9 (op_loadn gwagg24 gwsiz24 rfl (H9.ev rfl) (O7.get 0 rfl) rfl rfl) fun _ H13 => ?_
 clear H5 H9
 refine Wk H13 Tryd.func14 rfl (ar_cons (H13.ev rfl) ar_nil) (right_calls A0 c0 su bo ps _ hz (Kd.C_below hr O7.below) hc) ?_
 rintro e14 w15 ⟨rfl, hb16⟩
 refine ⟨_, rfl, fun _ H18 => ?_⟩
 have O19 := O7.after hb16
 clear H13 O7 hb16
 refine V H18 (op_not rfl (H18.ev rfl)) fun _ H22 => ?_
 refine gE hK11 ?_
 clear H18
 refine gw_cond H22 rfl (fun hb23 => ?_) (fun hb23 => ?_)
 ·
  have H24 := H22.subst_ (d := 5) (b := true) rfl hb23
  clear H22
  (try simp only [Bool.and_eq_true, Bool.and_eq_false_iff, Bool.not_and, Bool.or_eq_true, Bool.or_eq_false_iff, Bool.not_or, Bool.not_not, Bool.not_eq_true', Bool.not_eq_false', Bool.not_eq_true, Bool.not_eq_false] at hb23)
  have hno : rightS su bo ps = false := by have hb_ := hb23; revert hb_; cases rightS su bo ps <;> simp
  refine gR fun K25 hK25 => ?_
  refine Vc H24 fun _ H27 => ?_
  refine gE hK25 ?_
  refine wp_ret ?_
  clear H24
  refine gw_thr ?_
  refine gw_ret1 H27 rfl rfl ?_
  exact ⟨by unfold textL; rw [if_neg (by rw [hno]; decide)], O19.below⟩
 have H28 := H22.subst_ (d := 5) (b := false) rfl hb23
 clear H22
 (try simp only [Bool.and_eq_true, Bool.and_eq_false_iff, Bool.not_and, Bool.or_eq_true, Bool.or_eq_false_iff, Bool.not_or, Bool.not_not, Bool.not_eq_true', Bool.not_eq_false', Bool.not_eq_true, Bool.not_eq_false] at hb23)
 have hyes : rightS su bo ps = true := by have hb_ := hb23; revert hb_; cases rightS su bo ps <;> simp
 refine gS hK10 ?_
 refine gR fun K29 hK29 => ?_
 refine V H28 (op_loadn gwagg24 gwsiz24 rfl (H28.ev rfl) (O19.get 0 rfl) rfl rfl) fun _ H31 => ?_
 clear H28
 refine Wk H31 Tryd.func28 rfl (ar_cons (H31.ev rfl) ar_nil) (lines_calls su bo A0 c0 ps _ (Kd.C_below hr O19.below) hc hsm (hL.own O19)) ?_
 rintro e35 w36 ⟨A32, c33, S34, rfl, hb37⟩
 refine ⟨_, rfl, fun _ H39 => ?_⟩
 have O40 := O19.fresh hb37
 have hbel41 := O19.below
 clear H31 O19 hb37
 have O42 := O40.lowrow 0 rfl (base' := w.heap.size) (Below.size hbel41)
 refine Wk H39 Tryd.func27 rfl (ar_cons (H39.ev rfl) (ar_cons (ev_c _ _) ar_nil)) (join_row (O42.get 0 rfl) (by intro h_; have h2_ := lines_len su bo ps; rw [h_] at h2_; simp at h2_) (by have h2_ := lines_len su bo ps; omega) hcz) ?_
 rintro e43 w44 ⟨rfl, hb45⟩
 refine ⟨_, rfl, fun _ H47 => ?_⟩
 have O48 := O42.after hb45
 clear H39 O42 hb45
 refine V H47 (op_cats rfl (H47.ev rfl) (ev_c _ _) (by have h_ : (joinB (linesL su bo ps)).size = (Lib.join ((linesL su bo ps).map (·.data.toList)) [10]).length := List.size_toArray ..; have h2_ := join_size (linesL su bo ps) (by intro h3_; rw [h3_] at hll; simp at hll); show (joinB (linesL su bo ps)).size + 1 ≤ _; omega)) fun _ H51 => ?_
 refine Va H51 fun _ H53 => ?_
 refine gE hK29 ?_
 refine wp_ret ?_
 clear H47 H51
 refine gw_ret1 H53 rfl rfl ?_
 exact ⟨by unfold textL; rw [if_pos hyes, ← join_cat (linesL su bo ps) (by intro h3_; rw [h3_] at hll; simp at hll)], O48.below⟩
end GText_
export GText_ (text_calls)
namespace GAlive_
theorem alive_walk (w : World) (hL : LaidW w) :
    Calls Tryd.prog 9 #[] w fun e w' => e = .returned (.bool true) ∧ Below w.heap.size w w' := by
 refine gw_start (N := 36) (vs := []) Tryd.func9 rfl rfl (by simp) fun a HF HO => ?_
 replace HO : Own w w [] := HO
 refine gR fun K1 hK1 => ?_
 refine Vc HF ?_
 intro _ H3; clear HF
 refine gE hK1 ?_
 refine gR fun K4 hK4 => ?_
 have O19 : Own w _ [(Chunk.all [])] := Own.bundle (HO.sel [] (by decide))
 refine Wk H3 Tryd.func21 rfl ar_nil (first_frz w _ (Chunk.all []) O19) ?_
 rintro e13 w14 ⟨A5, c6, wz7, S8, rfl, hb15, hbz9, hFz10, hlz11⟩
 refine ⟨_, rfl, fun _ H17 => ?_⟩
 have O18 : Own w w14 [Chunk.frz wz7 S8] := Own.unbundle (hb15.sel [1, 0] (by decide))
 clear O19
 clear H3 HO hb15
 refine Wk H17 Tryd.func16 rfl (ar_cons (H17.ev rfl) ar_nil) (text_calls (⟨#[115]⟩ : ByteArray) (⟨#[98]⟩ : ByteArray) A5 c6 firstL _ (frz_C (i := 0) O18 rfl hbz9 hFz10) hlz11 (by decide : firstL.length + sumL firstL ≤ 1000000000) (hL.own O18) firstL_sz) ?_
 rintro e21 w22 ⟨rfl, hb23⟩
 refine ⟨_, rfl, fun _ H25 => ?_⟩
 have O26 := O18.after hb23
 clear H17 O18 hb23
 refine Va H25 fun _ H29 => ?_
 refine gE hK4 ?_
 refine gR fun K30 hK30 => ?_
 refine Vm H29 fun _ H32 => ?_
 clear H25 H29
 have O47 : Own w _ [(Chunk.all [Chunk.frz wz7 S8])] := Own.bundle (O26.sel [0] (by decide))
 refine Wk H32 Tryd.func18 rfl (ar_cons (H32.ev rfl) ar_nil) (parse_told w _ (Chunk.all [Chunk.frz wz7 S8]) (textL (⟨#[115]⟩ : ByteArray) (⟨#[98]⟩ : ByteArray) firstL) (⟨#[115]⟩ : ByteArray) (⟨#[98]⟩ : ByteArray) firstL 0 0 (told_yes (parse_text _ _ _ right_one)) (by rw [text_one]; decide) hL O47) ?_
 rintro e41 w42 ⟨A33, c34, wz35, S36, rfl, hb43, hbz37, hFz38, hlz39⟩
 refine ⟨_, rfl, fun _ H45 => ?_⟩
 have O46 : Own w w42 [Chunk.frz wz7 S8, Chunk.frz wz35 S36] := Own.unbundle (hb43.sel [1, 0] (by decide))
 clear O47
 clear H32 O26 hb43
 refine Vm H45 fun _ H50 => ?_
 refine Vx H50 fun _ H52 => ?_
 refine Vx H52 fun _ H54 => ?_
 refine Vx H54 fun _ H56 => ?_
 clear H45 H50 H52 H54
 refine gw_new H56 O46 (want_none rfl) rfl (by decide) (op_alloc gwzer24 rfl) ?_
 intro g57 _ w59 H60 O61; clear H56 O46
 have O62 : Own w w59 [Bk g57 [.string (⟨#[]⟩ : ByteArray), .string (⟨#[]⟩ : ByteArray), .slice none 0 0] 24, Chunk.frz wz7 S8, Chunk.frz wz35 S36] := O61
 clear O61
 refine gw_setn 0 H60 O62 rfl (want_none rfl) rfl (op_storen gwsiz24 rfl (H60.ev rfl) (H60.ev rfl) (O62.get 0 rfl) rfl (by simp) (by simp [Value.oneCell'])) ?_
 intro _ w65 H64 O66; clear H60 O62
 refine Va H64 fun _ H68 => ?_
 refine Va H68 fun _ H70 => ?_
 refine gE hK30 ?_
 refine gR fun K71 hK71 => ?_
 refine Vm H70 fun _ H73 => ?_
 refine V H73 (op_eqs rfl (H73.ev rfl) (ev_c _ _)) fun _ H75 => ?_
 clear H64 H68 H70 H73
 have H76 := H75.lit (b := true) (by rw [text_one]; simp)
 clear H75
 refine Vm H76 fun _ H78 => ?_
 refine V2 H78 (want_yes H78 rfl rfl rfl rfl) (op_move rfl (H78.ev rfl)) fun _ H80 => ?_
 refine V2 H80 (want_yes H80 rfl rfl rfl rfl) (op_eqi rfl (H80.ev rfl) (ev_c _ _)) fun _ H82 => ?_
 clear H76 H78 H80
 have H83 := H82.lit (b := true) (by decide)
 clear H82
 refine V H83 (op_pick_t rfl (H83.ev rfl) (H83.ev rfl)) fun _ H85 => ?_
 refine Vm H85 fun _ H87 => ?_
 refine V2 H87 (want_yes H87 rfl rfl rfl rfl) (op_loadn gwagg24 gwsiz24 rfl (H87.ev rfl) (O66.get 0 rfl) rfl rfl) fun _ H89 => ?_
 clear H83 H85 H87
 have O103 : Own w _ [(Chunk.all [Bk g57 [.string (⟨#[115]⟩ : ByteArray), .string (⟨#[98]⟩ : ByteArray), .slice A33 firstL.length c34] 24, Chunk.frz wz7 S8]), Chunk.frz wz35 S36] := Own.bundle (O66.sel [0, 1, 2] (by decide))
 refine gw_call H89 (want_yes H89 rfl rfl rfl rfl) rfl (by decide) (op_callL Tryd.func11 (by kernel_rfl) rfl rfl (ar_cons (H89.ev rfl) ar_nil)) (of_frz w _ wz35 (Chunk.all [Bk g57 [.string (⟨#[115]⟩ : ByteArray), .string (⟨#[98]⟩ : ByteArray), .slice A33 firstL.length c34] 24, Chunk.frz wz7 S8]) S36 A33 c34 (⟨#[115]⟩ : ByteArray) (⟨#[98]⟩ : ByteArray) firstL firstL_sz hbz37 hFz38 hlz39 O103) ?_
 rintro e97 w98 ⟨A90, c91, wz92, S93, rfl, hb99, hbz94, hFz38, hFz95, hlz96⟩
 refine ⟨_, rfl, fun _ H101 => ?_⟩
 have O102 : Own w w98 [Bk g57 [.string (⟨#[115]⟩ : ByteArray), .string (⟨#[98]⟩ : ByteArray), .slice A33 firstL.length c34] 24, Chunk.frz wz7 S8, Chunk.frz wz92 S93] := Own.unbundle (hb99.sel [0, 1] (by decide))
 clear O103
 clear H89 O66 hb99
 have O119 : Own w _ [(Chunk.all [Bk g57 [.string (⟨#[115]⟩ : ByteArray), .string (⟨#[98]⟩ : ByteArray), .slice A33 firstL.length c34] 24, Chunk.frz wz7 S8, Chunk.frz wz92 S93])] := Own.bundle (O102.sel [0, 1, 2] (by decide))
 refine gw_call H101 (want_yes H101 rfl rfl rfl rfl) rfl (by decide) (op_callL Tryd.func21 (by kernel_rfl) rfl rfl ar_nil) (first_frz w _ (Chunk.all [Bk g57 [.string (⟨#[115]⟩ : ByteArray), .string (⟨#[98]⟩ : ByteArray), .slice A33 firstL.length c34] 24, Chunk.frz wz7 S8, Chunk.frz wz92 S93]) O119) ?_
 rintro e113 w114 ⟨A105, c106, wz107, S108, rfl, hb115, hbz109, hFz110, hlz111⟩
 refine ⟨_, rfl, fun _ H117 => ?_⟩
 have O118 : Own w w114 [Bk g57 [.string (⟨#[115]⟩ : ByteArray), .string (⟨#[98]⟩ : ByteArray), .slice A33 firstL.length c34] 24, Chunk.frz wz7 S8, Chunk.frz wz92 S93, Chunk.frz wz107 S108] := Own.unbundle (hb115.sel [1, 0] (by decide))
 clear O119
 clear H101 O102 hb115
 have O134 : Own w _ [(Chunk.all [Bk g57 [.string (⟨#[115]⟩ : ByteArray), .string (⟨#[98]⟩ : ByteArray), .slice A33 firstL.length c34] 24, Chunk.frz wz7 S8, Chunk.frz wz92 S93]), Chunk.frz wz107 S108] := Own.bundle (O118.sel [0, 1, 2, 3] (by decide))
 refine gw_call H117 (want_yes H117 rfl rfl rfl rfl) rfl (by decide) (op_callL Tryd.func11 (by kernel_rfl) rfl rfl (ar_cons (H117.ev rfl) ar_nil)) (of_frz w _ wz107 (Chunk.all [Bk g57 [.string (⟨#[115]⟩ : ByteArray), .string (⟨#[98]⟩ : ByteArray), .slice A33 firstL.length c34] 24, Chunk.frz wz7 S8, Chunk.frz wz92 S93]) S108 A105 c106 (⟨#[115]⟩ : ByteArray) (⟨#[98]⟩ : ByteArray) firstL firstL_sz hbz109 hFz110 hlz111 O134) ?_
 rintro e128 w129 ⟨A121, c122, wz123, S124, rfl, hb130, hbz125, hFz110, hFz126, hlz127⟩
 refine ⟨_, rfl, fun _ H132 => ?_⟩
 have O133 : Own w w129 [Bk g57 [.string (⟨#[115]⟩ : ByteArray), .string (⟨#[98]⟩ : ByteArray), .slice A33 firstL.length c34] 24, Chunk.frz wz7 S8, Chunk.frz wz92 S93, Chunk.frz wz123 S124] := Own.unbundle (hb130.sel [0, 1] (by decide))
 clear O134
 clear H117 O118 hb130
 refine gw_call H132 (want_yes H132 rfl rfl rfl rfl) rfl (by decide) (op_callL Tryd.func20 (by kernel_rfl) rfl rfl (ar_cons (H132.ev rfl) (ar_cons (H132.ev rfl) ar_nil))) (same_calls A90 A121 c91 c122 (⟨#[115]⟩ : ByteArray) (⟨#[98]⟩ : ByteArray) firstL _ firstL_sz (frz_C (i := 2) O133 rfl hbz94 hFz95) hlz96 (frz_C (i := 3) O133 rfl hbz125 hFz126) hlz127) ?_
 rintro e136 w137 ⟨rfl, hb138⟩
 refine ⟨_, rfl, fun _ H140 => ?_⟩
 have O141 := O133.after hb138
 clear H132 O133 hb138
 refine V H140 (op_pick_t rfl (H140.ev rfl) (H140.ev rfl)) fun _ H144 => ?_
 refine Vm H144 fun _ H146 => ?_
 refine V2 H146 (want_yes H146 rfl rfl rfl rfl) (op_loadn gwagg24 gwsiz24 rfl (H146.ev rfl) (O141.get 0 rfl) rfl rfl) fun _ H148 => ?_
 clear H140 H144 H146
 refine gw_call H148 (want_yes H148 rfl rfl rfl rfl) rfl (by decide) (op_callL Tryd.func12 (by kernel_rfl) rfl rfl (ar_cons (H148.ev rfl) ar_nil)) (totals_calls (⟨#[115]⟩ : ByteArray) (⟨#[98]⟩ : ByteArray) A33 c34 firstL _ (frz_C (i := 2) O141 rfl hbz94 hFz38) hlz39 (by decide : sumL firstL ≤ 1000000000)) ?_
 rintro e149 w150 ⟨rfl, hb151⟩
 refine ⟨_, rfl, fun _ H153 => ?_⟩
 have O154 := O141.after hb151
 clear H148 O141 hb151
 refine V2 H153 (want_yes H153 rfl rfl rfl rfl) (op_aidx Tryd.underlying31 gwsiz3 gwagg3 rfl (H153.ev rfl) (ev_c _ _) (by decide) rfl) fun _ H157 => ?_
 refine V2 H157 (want_yes H157 rfl rfl rfl rfl) (op_eqi rfl (H157.ev rfl) (ev_c _ _)) fun _ H159 => ?_
 clear H153 H157
 have H160 := H159.lit (b := true) (by decide)
 clear H159
 refine V H160 (op_pick_t rfl (H160.ev rfl) (H160.ev rfl)) fun _ H162 => ?_
 refine Vm H162 fun _ H164 => ?_
 refine V2 H164 (want_yes H164 rfl rfl rfl rfl) (op_loadn gwagg24 gwsiz24 rfl (H164.ev rfl) (O154.get 0 rfl) rfl rfl) fun _ H166 => ?_
 clear H160 H162 H164
 refine gw_call H166 (want_yes H166 rfl rfl rfl rfl) rfl (by decide) (op_callL Tryd.func14 (by kernel_rfl) rfl rfl (ar_cons (H166.ev rfl) ar_nil)) (right_calls A33 c34 (⟨#[115]⟩ : ByteArray) (⟨#[98]⟩ : ByteArray) firstL _ firstL_sz (frz_C (i := 2) O154 rfl hbz94 hFz38) hlz39) ?_
 rintro e167 w168 ⟨rfl, hb169⟩
 refine ⟨_, rfl, fun _ H171 => ?_⟩
 have O172 := O154.after hb169
 clear H166 O154 hb169
 have H174 := H171.lit (b := true) (by exact right_one)
 clear H171
 refine V H174 (op_pick_t rfl (H174.ev rfl) (H174.ev rfl)) fun _ H176 => ?_
 refine Va H176 fun _ H178 => ?_
 refine gE hK71 ?_
 refine wp_ret ?_
 clear H174 H176
 refine gw_ret1 H178 rfl rfl ?_
 exact ⟨rfl, O172.below⟩
end GAlive_
export GAlive_ (alive_walk)
namespace GParses_
theorem parses_walk0 (LS : List ByteArray) (rem : ByteArray) (w : World) (hno : ∀ x ∈ LS, (10 : UInt8) ∉ x.data.toList) (hrem : (10 : UInt8) ∉ rem.data.toList) (hL : LaidW w) :
    Calls Tryd.prog 4 #[.string (catL LS ++ rem)] w fun e w' => e = .returned (.bool true) ∧ Below w.heap.size w w' := by
 refine gw_start (N := 40) (vs := [.string (catL LS ++ rem)]) Tryd.func4 rfl rfl (by simp) fun a HF HO => ?_
 replace HO : Own w w [] := HO
 refine gR fun K1 hK1 => ?_
 refine Vc HF ?_
 intro _ H3; clear HF
 refine gE hK1 ?_
 refine gw_seq fun K4 hK4 => ?_
 refine gR fun K5 hK5 => ?_
 refine Wk H3 Tryd.func9 rfl ar_nil (alive_walk _ (hL.own HO)) ?_
 rintro e6 w7 ⟨rfl, hb8⟩
 refine ⟨_, rfl, fun _ H10 => ?_⟩
 have O11 := HO.after hb8
 clear H3 HO hb8
 refine V H10 (op_not rfl (H10.ev rfl)) fun _ H14 => ?_
 refine gE hK5 ?_
 clear H10
 refine gw_cond H14 rfl (fun hb15 => ?_) (fun hb15 => ?_)
 ·
  cases hb15
 refine gS hK4 ?_
 refine gw_seq fun K16 hK16 => ?_
 refine gR fun K17 hK17 => ?_
 refine Vm H14 fun _ H19 => ?_
 refine V H19 (op_lens Tryd.underlying9 rfl (H19.ev rfl)) fun _ H21 => ?_
 refine V H21 (op_gtr rfl (H21.ev rfl) (ev_c _ _)) fun _ H23 => ?_
 refine gE hK17 ?_
 clear H14 H19 H21
 refine gw_cond H23 rfl (fun hb24 => ?_) (fun hb24 => ?_)
 ·
  have H25 := H23.subst_ (d := 13) (b := true) rfl hb24
  clear H23
  (try simp only [decide_eq_true_eq] at hb24)
  refine gR fun K26 hK26 => ?_
  refine Vc H25 fun _ H28 => ?_
  refine gE hK26 ?_
  refine wp_ret ?_
  clear H25
  refine gw_thr ?_
  refine gw_ret1 H28 rfl rfl ?_
  exact ⟨rfl, O11.below⟩
 have H29 := H23.subst_ (d := 13) (b := false) rfl hb24
 clear H23
 (try simp only [decide_eq_false_iff_not, Int.not_lt] at hb24)
 have hsz : (catL LS ++ rem).size ≤ 20000 := by have hb_ := hb24; omega
 have hzo : szP (outS (catL LS ++ rem)).2.2 := out_sz LS rem hno hrem (by omega)
 refine gS hK16 ?_
 refine gR fun K30 hK30 => ?_
 refine Vm H29 fun _ H32 => ?_
 clear H29
 have O47 : Own w _ [(Chunk.all [])] := Own.bundle (O11.sel [] (by decide))
 refine Wk H32 Tryd.func18 rfl (ar_cons (H32.ev rfl) ar_nil) (parse_frz w _ (Chunk.all []) (catL LS ++ rem) (by omega) hL O47) ?_
 rintro e41 w42 ⟨A33, c34, wz35, S36, rfl, hb43, hbz37, hFz38, hlz39⟩
 refine ⟨_, rfl, fun _ H45 => ?_⟩
 have O46 : Own w w42 [Chunk.frz wz35 S36] := Own.unbundle (hb43.sel [1, 0] (by decide))
 clear O47
 clear H32 O11 hb43
 refine Vm H45 fun _ H50 => ?_
 refine Vx H50 fun _ H52 => ?_
 refine Vx H52 fun _ H54 => ?_
 refine Vx H54 fun _ H56 => ?_
 clear H45 H50 H52 H54
 refine gw_new H56 O46 (want_none rfl) rfl (by decide) (op_alloc gwzer24 rfl) ?_
 intro g57 _ w59 H60 O61; clear H56 O46
 have O62 : Own w w59 [Bk g57 [.string (⟨#[]⟩ : ByteArray), .string (⟨#[]⟩ : ByteArray), .slice none 0 0] 24, Chunk.frz wz35 S36] := O61
 clear O61
 refine gw_setn 0 H60 O62 rfl (want_none rfl) rfl (op_storen gwsiz24 rfl (H60.ev rfl) (H60.ev rfl) (O62.get 0 rfl) rfl (by simp) (by simp [Value.oneCell'])) ?_
 intro _ w65 H64 O66; clear H60 O62
 refine Va H64 fun _ H68 => ?_
 refine Va H68 fun _ H70 => ?_
 refine gE hK30 ?_
 refine gR fun K71 hK71 => ?_
 refine Vm H70 fun _ H73 => ?_
 clear H64 H68 H70
 refine Wk H73 Tryd.func19 rfl (ar_cons (H73.ev rfl) ar_nil) (rparse_calls LS rem _ hno hrem (by omega)) ?_
 rintro e77 w78 ⟨A74, c75, S76, rfl, hb79⟩
 refine ⟨_, rfl, fun _ H81 => ?_⟩
 have O82 := O66.fresh hb79
 clear H73 O66 hb79
 refine Vm H81 fun _ H85 => ?_
 refine Vx H85 fun _ H87 => ?_
 refine Vx H87 fun _ H89 => ?_
 refine Vx H89 fun _ H91 => ?_
 clear H81 H85 H87 H89
 refine gw_new H91 O82 (want_none rfl) rfl (by decide) (op_alloc gwzer29 rfl) ?_
 intro g92 _ w94 H95 O96; clear H91 O82
 have O97 : Own w w94 [Bk g92 [.string (⟨#[]⟩ : ByteArray), .string (⟨#[]⟩ : ByteArray), .slice none 0 0] 29, Chunk.view k53 S76 A74 (((outS (catL LS ++ rem)).2.2.map cv).length) c75 ((outS (catL LS ++ rem)).2.2.map cv), Bk g57 [.string ((outS (catL LS ++ rem)).1), .string ((outS (catL LS ++ rem)).2.1), .slice A33 ((outS (catL LS ++ rem)).2.2.length) c34] 24, Chunk.frz wz35 S36] := O96
 clear O96
 refine gw_setn 0 H95 O97 rfl (want_none rfl) rfl (op_storen gwsiz29 rfl (H95.ev rfl) (H95.ev rfl) (O97.get 0 rfl) rfl (by simp) (by simp [Value.oneCell'])) ?_
 intro _ w100 H99 O101; clear H95 O97
 refine Va H99 fun _ H103 => ?_
 refine Va H103 fun _ H105 => ?_
 refine gE hK71 ?_
 refine gw_seq fun K106 hK106 => ?_
 clear H99 H103
 have O107 := O101.pin 1 rfl
 clear O101
 have O108 : Own w w100 [Bk g92 [.string ((outS (catL LS ++ rem)).1), .string ((outS (catL LS ++ rem)).2.1), .slice A74 (((outS (catL LS ++ rem)).2.2.map cv).length) c75] 29, Chunk.viewAt w100 k53 S76 A74 (((outS (catL LS ++ rem)).2.2.map cv).length) c75 ((outS (catL LS ++ rem)).2.2.map cv), Bk g57 [.string ((outS (catL LS ++ rem)).1), .string ((outS (catL LS ++ rem)).2.1), .slice A33 ((outS (catL LS ++ rem)).2.2.length) c34] 24, Chunk.frz wz35 S36] := O107
 clear O107
 refine gx_draw (M := [Bk g92 [.string ((outS (catL LS ++ rem)).1), .string ((outS (catL LS ++ rem)).2.1), .slice A74 (((outS (catL LS ++ rem)).2.2.map cv).length) c75] 29, Chunk.viewAt w100 k53 S76 A74 (((outS (catL LS ++ rem)).2.2.map cv).length) c75 ((outS (catL LS ++ rem)).2.2.map cv), Bk g57 [.string ((outS (catL LS ++ rem)).1), .string ((outS (catL LS ++ rem)).2.1), .slice A33 ((outS (catL LS ++ rem)).2.2.length) c34] 24]) (fun j_ => false) O108 (by kernel_rfl) fun w109 O110 => ?_
 clear O108
 refine gx_take 0 rfl (by kernel_rfl) H105 (by exact O110.sel [0, 1, 2] (by decide)) (want_none rfl) rfl (by decide) (fun wq HO => (op_move rfl (H105.ev rfl))) ?_
 intro _ H112; clear H105
 refine gx_take 1 rfl (by kernel_rfl) H112 (by exact O110.sel [0, 1, 2] (by decide)) (want_none rfl) rfl (by decide) (fun wq HO => (op_move rfl (H112.ev rfl))) ?_
 intro _ H114; clear H112
 refine gx_take 2 rfl (by kernel_rfl) H114 (by exact O110.sel [0, 1, 2] (by decide)) (want_none rfl) rfl (by decide) (fun wq HO => (op_eqi rfl (H114.ev rfl) (H114.ev rfl))) ?_
 intro _ H116; clear H114
 have H117 := H116.lit (b := true) (by simp)
 clear H116
 refine gx_take 3 rfl (by kernel_rfl) H117 (by exact O110.sel [0, 1, 2] (by decide)) (want_none rfl) rfl (by decide) (fun wq HO => (op_move rfl (H117.ev rfl))) ?_
 intro _ H119; clear H117
 refine gx_take 4 rfl (by kernel_rfl) H119 (by exact O110.sel [0, 1, 2] (by decide)) (want_yes H119 rfl rfl rfl rfl) rfl (by decide) (fun wq HO => (op_move rfl (H119.ev rfl))) ?_
 intro _ H121; clear H119
 refine gx_take 5 rfl (by kernel_rfl) H121 (by exact O110.sel [0, 1, 2] (by decide)) (want_yes H121 rfl rfl rfl rfl) rfl (by decide) (fun wq HO => (op_move rfl (H121.ev rfl))) ?_
 intro _ H123; clear H121
 refine gx_take 6 rfl (by kernel_rfl) H123 (by exact O110.sel [0, 1, 2] (by decide)) (want_yes H123 rfl rfl rfl rfl) rfl (by decide) (fun wq HO => (op_eqi rfl (H123.ev rfl) (H123.ev rfl))) ?_
 intro _ H125; clear H123
 have H126 := H125.lit (b := true) (by simp)
 clear H125
 refine gx_take 7 rfl (by kernel_rfl) H126 (by exact O110.sel [0, 1, 2] (by decide)) (want_none rfl) rfl (by decide) (fun wq HO => (op_pick_t rfl (H126.ev rfl) (H126.ev rfl))) ?_
 intro _ H128; clear H126
 refine gx_take 8 rfl (by kernel_rfl) H128 (by exact O110.sel [0, 1, 2] (by decide)) (want_none rfl) rfl (by decide) (fun wq HO => (op_move rfl (H128.ev rfl))) ?_
 intro _ H130; clear H128
 refine gx_take 9 rfl (by kernel_rfl) H130 (by exact O110.sel [0, 1, 2] (by decide)) (want_yes H130 rfl rfl rfl rfl) rfl (by decide) (fun wq HO => (op_loadn gwagg24 gwsiz24 rfl (H130.ev rfl) (HO.get 2 rfl) rfl rfl)) ?_
 intro _ H132; clear H130
 refine gx_take 11 rfl (by kernel_rfl) H132 (by exact O110.sel [0, 1, 2] (by decide)) (want_yes H132 rfl rfl rfl rfl) rfl (by decide) (fun wq HO => (op_loadn gwagg29 gwsiz29 rfl (H132.ev rfl) (HO.get 0 rfl) rfl rfl)) ?_
 intro _ H134; clear H132
 refine gx_step 10 rfl (by kernel_rfl) ?_
 have O148 : Own w _ [(Chunk.all [Bk g92 [.string ((outS (catL LS ++ rem)).1), .string ((outS (catL LS ++ rem)).2.1), .slice A74 (((outS (catL LS ++ rem)).2.2.map cv).length) c75] 29, Chunk.viewAt w100 k53 S76 A74 (((outS (catL LS ++ rem)).2.2.map cv).length) c75 ((outS (catL LS ++ rem)).2.2.map cv), Bk g57 [.string ((outS (catL LS ++ rem)).1), .string ((outS (catL LS ++ rem)).2.1), .slice A33 ((outS (catL LS ++ rem)).2.2.length) c34] 24]), Chunk.frz wz35 S36] := Own.bundle (O110.sel [0, 1, 2, 3] (by decide))
 refine gw_call H134 (want_yes H134 rfl rfl rfl rfl) rfl (by decide) (op_callL Tryd.func11 (by kernel_rfl) rfl rfl (ar_cons (H134.ev rfl) ar_nil)) (of_frz w _ wz35 (Chunk.all [Bk g92 [.string ((outS (catL LS ++ rem)).1), .string ((outS (catL LS ++ rem)).2.1), .slice A74 (((outS (catL LS ++ rem)).2.2.map cv).length) c75] 29, Chunk.viewAt w100 k53 S76 A74 (((outS (catL LS ++ rem)).2.2.map cv).length) c75 ((outS (catL LS ++ rem)).2.2.map cv), Bk g57 [.string ((outS (catL LS ++ rem)).1), .string ((outS (catL LS ++ rem)).2.1), .slice A33 ((outS (catL LS ++ rem)).2.2.length) c34] 24]) S36 A33 c34 ((outS (catL LS ++ rem)).1) ((outS (catL LS ++ rem)).2.1) ((outS (catL LS ++ rem)).2.2) hzo hbz37 hFz38 hlz39 O148) ?_
 rintro e142 w143 ⟨A135, c136, wz137, S138, rfl, hb144, hbz139, hFz38, hFz140, hlz141⟩
 refine ⟨_, rfl, fun _ H146 => ?_⟩
 have O147 : Own w w143 [Bk g92 [.string ((outS (catL LS ++ rem)).1), .string ((outS (catL LS ++ rem)).2.1), .slice A74 (((outS (catL LS ++ rem)).2.2.map cv).length) c75] 29, Chunk.viewAt w100 k53 S76 A74 (((outS (catL LS ++ rem)).2.2.map cv).length) c75 ((outS (catL LS ++ rem)).2.2.map cv), Bk g57 [.string ((outS (catL LS ++ rem)).1), .string ((outS (catL LS ++ rem)).2.1), .slice A33 ((outS (catL LS ++ rem)).2.2.length) c34] 24, Chunk.frz wz137 S138] := Own.unbundle (hb144.sel [0, 1] (by decide))
 clear O148
 clear H134 O110 hb144
 refine gx_on (i := 10) (B := (fun j_ => false)) (fun _ => (by exact O147.sel [0, 1, 2] (by decide))) ?_
 refine gx_step 12 rfl (by kernel_rfl) ?_
 refine gw_call H146 (want_yes H146 rfl rfl rfl rfl) rfl (by decide) (op_callL Tryd.func20 (by kernel_rfl) rfl rfl (ar_cons (H146.ev rfl) (ar_cons (H146.ev rfl) ar_nil))) (same_calls A135 A74 c136 c75 ((outS (catL LS ++ rem)).1) ((outS (catL LS ++ rem)).2.1) ((outS (catL LS ++ rem)).2.2) _ hzo (frz_C (i := 3) O147 rfl hbz139 hFz140) hlz141 (viewAt_C (O147.get 1 rfl)) (viewAt_le (O147.get 1 rfl))) ?_
 rintro e150 w151 ⟨rfl, hb152⟩
 refine ⟨_, rfl, fun _ H154 => ?_⟩
 have O155 := O147.after hb152
 clear H146 O147 hb152
 refine gx_on (i := 12) (B := (fun j_ => false)) (fun _ => (by exact O155.sel [0, 1, 2] (by decide))) ?_
 refine gx_take 13 rfl (by kernel_rfl) H154 (by exact O155.sel [0, 1, 2] (by decide)) (want_none rfl) rfl (by decide) (fun wq HO => (op_pick_t rfl (H154.ev rfl) (H154.ev rfl))) ?_
 intro _ H158; clear H154
 refine gx_take 14 rfl (by kernel_rfl) H158 (by exact O155.sel [0, 1, 2] (by decide)) (want_none rfl) rfl (by decide) (fun wq HO => (op_assign rfl (H158.ev rfl))) ?_
 intro _ H160; clear H158
 refine gx_done (by kernel_rfl) ?_
 refine gw_nx (hK106 _ _ ?_)
 refine wp_ret ?_
 have O161 := O155.unpin 1 rfl
 clear O155
 have O162 : Own w w151 [Bk g92 [.string ((outS (catL LS ++ rem)).1), .string ((outS (catL LS ++ rem)).2.1), .slice A74 (((outS (catL LS ++ rem)).2.2.map cv).length) c75] 29, Chunk.view k53 S76 A74 (((outS (catL LS ++ rem)).2.2.map cv).length) c75 ((outS (catL LS ++ rem)).2.2.map cv), Bk g57 [.string ((outS (catL LS ++ rem)).1), .string ((outS (catL LS ++ rem)).2.1), .slice A33 ((outS (catL LS ++ rem)).2.2.length) c34] 24, Chunk.frz wz137 S138] := O161
 clear O161
 refine gw_ret1 H160 rfl rfl ?_
 exact ⟨rfl, O162.below⟩
end GParses_
export GParses_ (parses_walk0)
theorem parses_walk (s : ByteArray) (w : World) (hL : LaidW w) : Calls Tryd.prog 4 #[.string s] w fun e w' => e = .returned (.bool true) ∧ Below w.heap.size w w' := by
  obtain ⟨LS, rem, rfl, hno, hrem⟩ := split_text _ s rfl
  exact parses_walk0 LS rem w hno hrem hL
open Classical in
noncomputable def colloquylaw20_SumParses.f (a0 : ByteArray) : Option Bool := if True then some true else none
theorem colloquylaw20_SumParses.calls (a0 : ByteArray) (r : Bool) (w : World)  (hL : LaidW w) (h : colloquylaw20_SumParses.f a0 = some r) :
    Calls Tryd.prog 4 #[(.string a0)] w fun e w' => e = .returned (.bool r) ∧ Below w.heap.size w w' := by
  unfold colloquylaw20_SumParses.f at h
  split at h
  · cases h; rename_i hh; exact parses_walk a0 w   hL
  · cases h
structure Opens {α : Type} (P : Program) (t : TypeId) (d : Kd α) (good : α → Prop) (wt : α → Nat) (sz : α → Prop) : Prop where
  run : ∀ {H : Type} (enc : TypeId × Value → H) (w : World) (spare : Nat → Bool) (held : Bool) (fuel : Nat) (cs : List Value) (x : DataW H × List MemPlace),
    DataW.trod enc P w 0 spare held fuel t cs = some x → ∃ y : α, d.K w y cs ∧ good y ∧ wt y ≤ Rows.uptoBulk x.1 ∧ ((∀ n ∈ x.1.weights P t, n ≤ reachBytes) → sz y)
structure OpensF {α : Type} (P : Program) (fs : List Field) (off : Nat) (d : Kd α) (good : α → Prop) (wt : α → Nat) (sz : α → Prop) : Prop where
  run : ∀ {H : Type} (enc : TypeId × Value → H) (w : World) (spare : Nat → Bool) (held : Bool) (fuel : Nat) (cs : List Value) (xs : List (DataW H × List MemPlace)),
    (fs.mapM fun f => DataW.trod enc P w 0 spare held fuel f.type ((cs.drop f.offset).take (P.cellsOf f.type))) = some xs →
      ∃ y : α, d.K w y ((cs.drop off).take d.sz) ∧ good y ∧ wt y ≤ Rows.uptoBulkAll (xs.map (·.1)) ∧ ((∀ n ∈ DataW.weightsEach P (fs.map (·.type)) (xs.map (·.1)), n ≤ reachBytes) → sz y)
def colloquylaw20_SumParses.PureU : Prop := ∀ (x0 : ByteArray), (x0).size ≤ maxLen → x0.size ≤ 140737488351232 → ∃ _ : Nat, colloquylaw20_SumParses.f (x0) = some true
end Go.Proofs.YtljmbgilcngfgaaDoor.PA
section
namespace Go.Proofs.YtljmbgilcngfgaaDoor.Pure
open Go.RowKit Go.Proofs.YtljmbgilcngfgaaDoor.PA
set_option linter.unusedVariables false in
theorem SumParses : colloquylaw20_SumParses.PureU := fun x0 _ _ => ⟨0, if_pos trivial⟩
end Go.Proofs.YtljmbgilcngfgaaDoor.Pure
end
section
namespace Go.Proofs.YtljmbgilcngfgaaDoor.sumParses
open Go.ChangeShapes Go.WideShapes Go.ChangeAt Go.RowKit
open Go.ChangeMaps (open_string shut_string)
open Go.RowKit Go.Proofs.YtljmbgilcngfgaaDoorW.PrintWords Go.Proofs.YtljmbgilcngfgaaDoorW.PrintLast Go.Proofs.YtljmbgilcngfgaaDoorW.PrintMore Go.Proofs.YtljmbgilcngfgaaDoor.PA
set_option linter.unusedVariables false
set_option linter.unusedSimpArgs false
theorem own : ownKnob Tryd.prog.godebug = none := by kernel_rfl
theorem laidOut : laidOutB Tryd.prog = true := by kernel_rfl
set_option maxRecDepth 100000 in
theorem contract (H : Type) (enc : TypeId × Value → H) (W : World) (base : Nat) (args : Array Value) (ds gs : List (DataW H)) (before : List MemPlace)
    (hval0 : ∀ (j : Nat) t v, Tryd.f4.params[j]? = some t → args[j]? = some v → Value.okWide Tryd.prog W .any base t v)
    (hW : DataW.Whole enc Tryd.prog Tryd.f4.params.toList Rows.sumParsesSpec.vars false W args.toList ds gs before)
    (hsz0 : (DataW.weightsEach Tryd.prog (Tryd.f4.params.toList ++ Rows.sumParsesSpec.plain.varTypes Tryd.prog) (ds ++ gs)).all (· ≤ reachBytes) = true) (hLd : PA.LaidW W) :
    Calls Tryd.prog 4 args W fun e W' => ∃ v, e = .returned v ∧ Rows.sumParsesSpec.post enc Tryd.prog Tryd.f4 false true false false W args v W' := by
  have hsz : (DataW.weightsEach Tryd.prog (Tryd.f4.params.toList ++ Rows.sumParsesSpec.plain.varTypes Tryd.prog) (ds ++ gs)).all (· ≤ reachBytes) = true := hsz0
  have hval : ∀ (j : Nat) t v, Tryd.f4.params[j]? = some t → args[j]? = some v → Value.okWide Tryd.prog W .any base t v := hval0
  have hW' := hW
  obtain ⟨p, q, hA0, hV, rfl, hfz, hnd⟩ := hW
  have hA : DataW.TrodAll enc Tryd.prog W 0 (fun _ => true) true Tryd.f4.params.toList args.toList ds p := hA0
  rw [Tryd.params4] at hA hval hsz
  obtain ⟨v0, vs0, d0, ds0, p0, q0, hargs, rfl, rfl, h0, r0⟩ := trodAll_cons hA
  obtain ⟨rfl, rfl, rfl⟩ := trodAll_nil r0
  obtain rfl : args = #[v0] := by cases args; simp_all
  obtain ⟨rfl, rfl⟩ := trodVars_none hV
  obtain ⟨x0, rfl, rfl, rfl, g0⟩ := open_string Tryd.underlying9 (hval 0 9 v0 rfl rfl) h0
  have z0 : x0.size ≤ 140737488351232 := by
    have z := sized_string hsz (j := 0) (t := 9) rfl rfl
    rw [Array.length_toList] at z
    exact z
  obtain ⟨k, h⟩ := Pure.SumParses x0 g0 z0
  refine (PA.colloquylaw20_SumParses.calls (a0 := x0) (r := true) (w := W) (hL := hLd) (h := h)).mono fun e W' ⟨he, hb⟩ => ?_
  have bel : Below W.heap.size W W' := by first | exact hb | exact Drawn0.below hb
  subst he
  exact ⟨_, rfl, _, _, _, [], _, [], hW', trodAll_mk1 (shut_bool Tryd.underlying4 _), (trodAll_cons_mk (shut_string Tryd.underlying9 g0) trodAll_mk0), rfl, bel.frame _, fun h => by cases h⟩
set_option maxRecDepth 100000 in
theorem lifted (os : Os) (started : os.Started) (H : Type) (enc : TypeId × Value → H) :
    ReturnsInHanded {} Tryd.checked os 4 .any (fun w args => (Rows.sumParsesSpec.pre enc Tryd.prog Tryd.f4 Rows.sumParsesRow.domain false w args ∧ laidMetH Tryd.prog Rows.sumParsesRow.laid w) ∧ sizedMet enc Tryd.prog Tryd.f4 (OpenSpec.ofChange Rows.sumParsesSpec) false w args)
      (Rows.sumParsesSpec.post enc Tryd.prog Tryd.f4 false true false false) := by
  refine PA.handed_and_shaped (C := Tryd.checked) (X := fun w _ => laidMetH Tryd.prog Rows.sumParsesRow.laid w) (fun _ _ _ hh h => h.of_heap hh) own started (by kernel_rfl) Tryd.func4
    (ChangeSpec.witness_shaped (enc := enc) (C := Tryd.checked) (os := os) (X := fun w _ => laidMetH Tryd.prog Rows.sumParsesRow.laid w) false (World.laidAll Tryd.prog os Rows.sumParsesRow.laid) #[.string ByteArray.empty] 8 (World.laidAll_os _ _ _)
      (World.shaped_of_ZipB (by kernel_rfl) (by kernel_rfl)) (by kernel_rfl) (by kernel_rfl) (by kernel_rfl)
      (by rw [MakeChecks.laidMetH_plain _ _ _ (by kernel_rfl)]; exact laidMet_laidAll _ (by kernel_rfl) (by kernel_rfl))) ?_
  intro W base args ds gs before hval hW hsz hx hsh
  exact contract H enc W base args ds gs before hval hW hsz (PA.laid_W hsh (fun w => MakeChecks.laidMetH_plain _ _ w (by kernel_rfl)) (by have e_ : (Lib.tabData .u64 Lib.pow10Tab : DataW Unit) = Rows.laid_internal_strconv_uint64pow10 := (by kernel_rfl); rw [e_]; simp [Rows.sumParsesRow]) hx)
theorem over : Rows.sumParsesRow.holds Tryd.pinned (OpenSpec.ofChange Rows.sumParsesSpec) :=
  OpenClaim.holds_of_wide 4 Tryd.f4 rfl rfl rfl rfl rfl rfl rfl ⟨rfl, rfl, rfl, rfl, rfl⟩ rfl rfl rfl rfl rfl (by kernel_rfl) Tryd.func4 (by kernel_rfl)
    (of_decide_eq_true (by kernel_rfl)) (by unfold Func.isWrapper; first | (rw [if_pos (by decide +kernel)]; kernel_rfl) | (rw [if_neg (by decide +kernel)]; exact ⟨rfl, rfl⟩))
    (fun os started H enc _ => lifted os started H enc)
theorem proved : Rows.SumParsesSaid := over
theorem card_holds : Rows.SumParsesCardSaid :=
  Claim7.holds_tied_plain_at .later [] [.data, .data, .data, .data, .pinned] true (true, "9ec31119e96e43430481a0a0f6c2bb068c6456d675388dc92fd42b455ffcde30") false
    proved (fun _ h => by cases h) (by kernel_rfl) (fun _ h => by cases h) sumParses_row_tie rfl ⟨rfl, rfl⟩ (by kernel_rfl) rfl
    (fun f fn hf hfn => by
      obtain rfl : f = 4 := Option.some.inj ((show Tryd.prog.funcNamed "colloquy/colloquylaw20.SumParses" = some 4 by kernel_rfl).symm.trans hf) |>.symm
      obtain rfl : fn = Tryd.f4 := (Option.some.inj (Tryd.func4.symm.trans hfn)).symm
      exact ⟨by kernel_rfl, fun j t ht => by
        have hall : (Tryd.f4.params.toList.all fun u => !Tryd.prog.wantsStandIn u) = true := by kernel_rfl
        have hm : t ∈ Tryd.f4.params.toList := Array.mem_toList_iff.2 (Array.mem_of_getElem? ht)
        exact (show Tryd.prog.wantsStandIn t = false by simpa using List.all_eq_true.1 hall t hm)⟩)
    (by kernel_rfl)
end Go.Proofs.YtljmbgilcngfgaaDoor.sumParses
namespace Go.Proofs.YtljmbgilcngfgaaDoor
theorem sumParsesCard_holds : Rows.SumParsesCardSaid := sumParses.card_holds
end Go.Proofs.YtljmbgilcngfgaaDoor
end
