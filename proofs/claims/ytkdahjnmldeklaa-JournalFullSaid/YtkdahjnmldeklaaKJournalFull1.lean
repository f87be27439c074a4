/- What this claim uses of this session's own texts, put together by a program: GRead HReadL KeyIter PAx40 HSame HClone0 HJour GJour0 GJour1 GVfs0 GVfs1 GVfs2. -/
import Derived.Test.YtkdahjnmldeklaaKJournalFull0
import Derived.Test.YtkdahjnmldeklaaProg
import Derived.Test.YtkdahjnmldeklaaRows
section
namespace Go.Proofs.Ytkdahjnmldeklaa.PA
open Go.RowKit Go.Proofs.YtkdahjnmldeklaaW.PrintWords Go.Proofs.YtkdahjnmldeklaaW.PrintLast Go.Proofs.YtkdahjnmldeklaaW.PrintMore
set_option linter.unusedVariables false
set_option linter.unusedSimpArgs false
namespace GRead_
theorem gwagg26 : ∀ w, (isAgg 26).run Try.prog w = .ok false w := fun _ => by kernel_rfl
theorem gwagg28 : ∀ w, (isAgg 28).run Try.prog w = .ok false w := fun _ => by kernel_rfl
theorem gwagg5 : ∀ w, (isAgg 5).run Try.prog w = .ok false w := fun _ => by kernel_rfl
theorem gwfld126_0 (g off : Nat) : ∀ w, (Instr.fieldAt 126 (.pointer (some ⟨g, off, none⟩)) 0).run Try.prog w = .ok (.pointer (some ⟨g, off + 0, none⟩)) w := fun _ => by kernel_rfl
theorem gwsiz124 : ∀ w, (sizeOf 124).run Try.prog w = .ok 0 w := fun _ => by kernel_rfl
theorem gwsiz26 : ∀ w, (sizeOf 26).run Try.prog w = .ok 1 w := fun _ => by kernel_rfl
theorem gwsiz28 : ∀ w, (sizeOf 28).run Try.prog w = .ok 1 w := fun _ => by kernel_rfl
theorem gwsiz5 : ∀ w, (sizeOf 5).run Try.prog w = .ok 1 w := fun _ => by kernel_rfl
theorem gwzer124 : ∀ w, (zeroValue 124).run Try.prog w = .ok (.agg #[]) w := fun _ => by kernel_rfl
theorem gwzer26 : ∀ w, (zeroValue 26).run Try.prog w = .ok (.int .i64 0) w := fun _ => by kernel_rfl
set_option maxHeartbeats 4000000 in
set_option maxRecDepth 100000 in
theorem need_calls (ad : Addr) (b : Bool) (w : World) :
    Calls Try.prog 83 #[.pointer (some ad), .bool b] w fun e w' => (b = true ∧ e = .returned (.tuple #[]) ∧ Below w.heap.size w w') ∨ (b = false ∧ e = .panicked [{ v := .iface 124 (.agg #[]), recovered := false }] ∧ Below w.heap.size w w') := by
 refine gw_start (N := 8) (vs := [.pointer (some ad), .bool b]) Try.func83 rfl rfl (by simp) fun a HF HO => ?_
 replace HO : Own w w [] := HO
 refine gw_seq fun K1 hK1 => ?_
 refine wp_region_lit ?_
 refine V HF (op_move rfl (HF.ev rfl)) ?_
 intro _ H3; clear HF
 refine V H3 (op_not rfl (H3.ev rfl)) ?_
 intro _ H5; clear H3
 refine wpList_nil ?_
 refine gw_nx (hK1 _ _ ?_)
 refine gw_cond H5 rfl (fun hb6 => ?_) (fun hb6 => ?_)
 ·
  have H7 := H5.subst_ (d := 5) (b := true) rfl hb6
  clear H5
  (try simp only [Bool.and_eq_true, Bool.or_eq_true, Bool.and_eq_false_iff, Bool.or_eq_false_iff, Bool.not_and, Bool.not_or, Bool.not_not, decide_eq_true_eq, decide_eq_false_iff_not, Bool.not_eq_true', Bool.not_eq_false', Bool.not_eq_true, Bool.not_eq_false, ne_eq, Decidable.not_not, Int.not_lt, Int.not_le, not_true_eq_false, not_false_eq_true, bne_iff_ne, beq_iff_eq, bne_eq_false_iff_eq, beq_eq_false_iff_ne] at hb6)
  refine wp_region_lit ?_
  refine V H7 (op_build (cells := #[]) rfl pt_nil (by kernel_rfl)) ?_
  intro _ H9; clear H7
  refine V H9 (op_iface (fun _ => by first | rfl | kernel_rfl) rfl (H9.ev rfl)) ?_
  intro _ H11; clear H9
  refine gw_panic (want_none rfl) (panics_ rfl (H11.ev rfl)) ?_
  refine gw_pan H11 ?_
  exact .inr ⟨by simp_all, rfl, HO.below⟩
 ·
  have H12 := H5.subst_ (d := 5) (b := false) rfl hb6
  clear H5
  (try simp only [Bool.and_eq_true, Bool.or_eq_true, Bool.and_eq_false_iff, Bool.or_eq_false_iff, Bool.not_and, Bool.not_or, Bool.not_not, decide_eq_true_eq, decide_eq_false_iff_not, Bool.not_eq_true', Bool.not_eq_false', Bool.not_eq_true, Bool.not_eq_false, ne_eq, Decidable.not_not, Int.not_lt, Int.not_le, not_true_eq_false, not_false_eq_true, bne_iff_ne, beq_iff_eq, bne_eq_false_iff_eq, beq_eq_false_iff_ne] at hb6)
  refine wp_skip ?_
  refine gw_end0 H12 rfl ?_
  exact .inl ⟨by simp_all, rfl, HO.below⟩
set_option maxHeartbeats 4000000 in
set_option maxRecDepth 100000 in
theorem num_calls (w0 w : World) (R : Chunk) (g : Nat) (A : Option Addr) (c : Nat) (xs : List Int) (hx : ∀ w_, Own w0 w_ [R] → Kd.C (Kd.int .u8) w_ A xs.length xs) (hc : xs.length ≤ c) (hb : ByteL xs) (HO : Own w0 w [R, Bk g [.slice A xs.length c] 126]) :
    Calls Try.prog 72 #[.pointer (some ⟨g, 0, none⟩)] w fun e w' => (∃ n k A' c', gnum xs = some (n, k) ∧ e = .returned (.int .i64 n) ∧ (∀ W, Kd.C (Kd.int .u8) W A xs.length xs → Kd.C (Kd.int .u8) W A' (xs.drop k).length (xs.drop k)) ∧ (xs.drop k).length ≤ c' ∧ Own w0 w' [R, Chunk.blk g (.cells #[.slice A' (xs.drop k).length c'] 126 (0, 0))]) ∨ (gnum xs = none ∧ e = .panicked [{ v := .iface 124 (.agg #[]), recovered := false }] ∧ Own w0 w' [R]) := by
 refine gw_startO (N := 57) (vs := [.pointer (some ⟨g, 0, none⟩)]) Try.func72 rfl rfl (by simp) fun a HF => ?_
 refine gw_seq fun K1 hK1 => ?_
 refine wp_region_lit ?_
 refine V HF (op_assign rfl (ev_c _ _)) ?_
 intro _ H3; clear HF
 refine wpList_nil ?_
 refine gw_nx (hK1 _ _ ?_)
 refine gw_seq fun K4 hK4 => ?_
 refine wp_region_lit ?_
 refine V H3 (op_assign rfl (ev_c _ _)) ?_
 intro _ H6; clear H3
 refine wpList_nil ?_
 refine gw_nx (hK4 _ _ ?_)
 refine gw_seq fun K7 hK7 => ?_
 refine wp_region_lit ?_
 refine V H6 (op_assign rfl (ev_c _ _)) ?_
 intro _ H9; clear H6
 refine wpList_nil ?_
 refine gw_nx (hK7 _ _ ?_)
 refine wp_block ?_
 refine gw_loop (fun m_ a_ w_ => ∃ (j : Int) (A' : Option Addr) (c' : Nat), Fr 57 a_ [(3, .int .u64 (valN xs j.toNat)), (4, J (7 * j)), (0, .pointer (some ⟨g, 0, none⟩))] ∧ Own w0 w_ [R, Bk g [.slice A' ((xs.drop j.toNat).length) c'] 126] ∧ (0 ≤ j ∧ j ≤ 9 ∧ j ≤ xs.length) ∧ (gnum xs = gnumFrom xs (10 - j.toNat) j.toNat) ∧ (∀ W, Kd.C (Kd.int .u8) W A xs.length xs → Kd.C (Kd.int .u8) W A' (xs.drop j.toNat).length (xs.drop j.toNat)) ∧ ((xs.drop j.toNat).length ≤ c') ∧ m_ = (9 - j.toNat)) ((9 - (0 : Int).toNat)) ?_ ?_
 ·
  refine ⟨0, A, c, (H9.pick (t := 3) rfl (H9.pick (t := 4) rfl (H9.pick (t := 0) rfl H9.nil))), HO.sel [0, 1] (by decide), ?_, ?_, ?_, ?_, rfl⟩
  ·
   (first | omega | (simp only [List.length_drop] at *; omega))
  ·
   rfl
  ·
   intro W h; exact h
  ·
   exact hc
 ·
  rintro m11 _ w13 ⟨j, A', c', H14, O15, hj, hg, hC, hcap, hm16⟩
  refine gw_seq fun K17 hK17 => ?_
  refine wp_block ?_
  refine gw_seq fun K18 hK18 => ?_
  refine wp_region_lit ?_
  refine V H14 (op_move rfl (H14.ev rfl)) ?_
  intro _ H20; clear H14
  refine V H20 (op_move rfl (H20.ev rfl)) ?_
  intro _ H22; clear H20
  refine V H22 (op_nil rfl (H22.ev rfl)) ?_
  intro _ H24; clear H22
  refine V H24 (op_field (gwfld126_0 _ _) rfl (H24.ev rfl)) ?_
  intro _ H26; clear H24
  refine V H26 (op_load1 gwagg28 rfl (H26.ev rfl) (blk_at (O15.get 1 rfl) rfl)) ?_
  intro _ H28; clear H26
  refine V H28 (op_len Try.underlying28 rfl (H28.ev rfl)) ?_
  intro _ H30; clear H28
  refine V H30 (op_gtr rfl (H30.ev rfl) (ev_c _ _)) ?_
  intro _ H32; clear H30
  refine V H32 (op_move rfl (H32.ev rfl)) ?_
  intro _ H34; clear H32
  refine gw_evG H34 rfl rfl rfl rfl (on_t _) rfl (by decide) (fun h_ => (op_move rfl (H34.ev rfl))) ?_
  intro _ H36; clear H34
  refine gw_evG H36 rfl rfl rfl rfl (on_t _) rfl (by decide) (fun h_ => (op_lss rfl (ev_gv (H36.ev rfl) h_) (ev_c _ _))) ?_
  intro _ H38; clear H36
  refine V H38 (op_pick_and rfl (H38.ev rfl) (fun hp_ => (ev_gv (H38.ev rfl) hp_)) (ev_c _ _)) ?_
  intro _ H40; clear H38
  refine gw_callP H40 (want_none rfl) rfl (by decide) (op_callL Try.func83 (by kernel_rfl) rfl rfl (ar_cons (H40.ev rfl) (ar_cons (H40.ev rfl) ar_nil))) (GRead_.need_calls ⟨g, 0, none⟩ ((decide (0 < (((xs.drop j.toNat).length) : Int))) && (decide ((7 * j) < 63))) _) ?_
  rintro e42 w43 (⟨hn41, rfl, hb44⟩ | ⟨hn41, rfl, hb44⟩)
  rotate_left
  ·
   refine .inr ⟨_, rfl, ?_⟩
   have O48 := O15.after hb44
   (try simp only [Bool.and_eq_true, Bool.or_eq_true, Bool.and_eq_false_iff, Bool.or_eq_false_iff, Bool.not_and, Bool.not_or, Bool.not_not, decide_eq_true_eq, decide_eq_false_iff_not, Bool.not_eq_true', Bool.not_eq_false', Bool.not_eq_true, Bool.not_eq_false, ne_eq, Decidable.not_not, Int.not_lt, Int.not_le, not_true_eq_false, not_false_eq_true, bne_iff_ne, beq_iff_eq, bne_eq_false_iff_eq, beq_eq_false_iff_ne] at hn41)
   refine gw_thp ?_
   refine gw_blp ?_
   refine gw_thp ?_
   refine gw_thp ?_
   refine gw_blp ?_
   refine gw_pan H40 ?_
   first | exact .inr ⟨gn_out hj.1 hj.2.1 hg (by (first | omega | (simp only [List.length_drop] at *; omega))), rfl, O48.sel [0] (by decide)⟩ | exact .inr ⟨(by rw [gn_in hj.1 hg (by (first | omega | (simp only [List.length_drop] at *; omega))) (by (first | omega | (simp only [List.length_drop] at *; omega))), if_pos (by (first | omega | (simp only [List.length_drop] at *; omega))), if_neg (by (first | omega | (simp only [List.length_drop] at *; omega)))]), rfl, O48.sel [0] (by decide)⟩
  refine .inl ⟨_, rfl, fun _ H46 => ?_⟩
  have O47 := O15.after hb44
  clear H40 O15 hb44
  (try simp only [Bool.and_eq_true, Bool.or_eq_true, Bool.and_eq_false_iff, Bool.or_eq_false_iff, Bool.not_and, Bool.not_or, Bool.not_not, decide_eq_true_eq, decide_eq_false_iff_not, Bool.not_eq_true', Bool.not_eq_false', Bool.not_eq_true, Bool.not_eq_false, ne_eq, Decidable.not_not, Int.not_lt, Int.not_le, not_true_eq_false, not_false_eq_true, bne_iff_ne, beq_iff_eq, bne_eq_false_iff_eq, beq_eq_false_iff_ne] at hn41)
  refine wpList_nil ?_
  refine gw_nx (hK18 _ _ ?_)
  refine gw_seq fun K50 hK50 => ?_
  refine wp_region_lit ?_
  refine V H46 (op_move rfl (H46.ev rfl)) ?_
  intro _ H52; clear H46
  refine V H52 (op_nil rfl (H52.ev rfl)) ?_
  intro _ H54; clear H52
  refine V H54 (op_field (gwfld126_0 _ _) rfl (H54.ev rfl)) ?_
  intro _ H56; clear H54
  refine V H56 (op_load1 gwagg28 rfl (H56.ev rfl) (blk_at (O47.get 1 rfl) rfl)) ?_
  intro _ H58; clear H56
  obtain ⟨ad59, cs62, hA60, hl63, hK64, hc61⟩ := Kd.C_get (hC _ (hx _ (O47.sel [0] (by decide)))) (0 : Int) 0 (by (first | omega | (simp only [List.length_drop] at *; omega))) (by (first | omega | (simp only [List.length_drop] at *; omega)))
  obtain rfl := id hK64
  clear hl63
  refine V H58 (op_index Try.underlying28 gwsiz5 rfl (H58.ev rfl) (ev_c _ _) hA60 (⟨by (first | omega | (simp only [List.length_drop] at *; omega)), by (first | omega | (simp only [List.length_drop] at *; omega))⟩)) ?_
  intro _ H66; clear H58
  have hby := byte_getD hb j.toNat (by (first | omega | (simp only [List.length_drop] at *; omega)))
  refine V H66 (op_load1 gwagg5 rfl (H66.ev rfl) ((at0 hc61))) ?_
  intro _ H68; clear H66
  have H69 := H68.conv (v' := .int .u8 (xs.getD j.toNat 0)) (by rw [getD_drop xs j hj.1])
  clear H68
  refine V H69 (op_assign rfl (H69.ev rfl)) ?_
  intro _ H71; clear H69
  refine wpList_nil ?_
  refine gw_nx (hK50 _ _ ?_)
  refine gw_seq fun K72 hK72 => ?_
  refine wp_region_lit ?_
  refine V H71 (op_move rfl (H71.ev rfl)) ?_
  intro _ H74; clear H71
  refine V H74 (op_move rfl (H74.ev rfl)) ?_
  intro _ H76; clear H74
  refine V H76 (op_nil rfl (H76.ev rfl)) ?_
  intro _ H78; clear H76
  refine V H78 (op_field (gwfld126_0 _ _) rfl (H78.ev rfl)) ?_
  intro _ H80; clear H78
  refine V H80 (op_load1 gwagg28 rfl (H80.ev rfl) (blk_at (O47.get 1 rfl) rfl)) ?_
  intro _ H82; clear H80
  obtain ⟨A83, c84, hr85, hc86, hC87, hA88⟩ := cut_lo (P := Try.prog) (d := (Kd.int .u8)) (t := 28) (e := 5) Try.underlying28 gwsiz5 A' c' (xs.drop j.toNat) hcap 1 (by (first | omega | (simp only [List.length_drop] at *; omega))) (by (first | omega | (simp only [List.length_drop] at *; omega)))
  refine V H82 (op_cut Try.underlying28 hr85 rfl (H82.ev rfl) (some_ev (ev_c _ _)) rfl) ?_
  intro _ H90; clear H82
  refine V H90 (op_nil rfl (H90.ev rfl)) ?_
  intro _ H92; clear H90
  refine V H92 (op_field (gwfld126_0 _ _) rfl (H92.ev rfl)) ?_
  intro _ H94; clear H92
  refine gw_set 1 H94 O47 rfl (want_none rfl) rfl (op_store1 gwsiz28 rfl (H94.ev rfl) (H94.ev rfl) rfl (blk_at (O47.get 1 rfl) rfl) (blkf (O47.get 1 rfl))) ?_
  intro _ w97 H96 O98; clear H94 O47
  have O99 : Own w0 w97 [R, Bk g [.slice A83 (((xs.drop j.toNat).drop (1 : Int).toNat).length) c84] 126] := O98
  clear O98
  refine wpList_nil ?_
  refine gw_nx (hK72 _ _ ?_)
  refine gw_seq fun K100 hK100 => ?_
  refine wp_region_lit ?_
  refine V H96 (op_move rfl (H96.ev rfl)) ?_
  intro _ H102; clear H96
  refine V H102 (op_move rfl (H102.ev rfl)) ?_
  intro _ H104; clear H102
  refine V H104 (op_and rfl (H104.ev rfl) (ev_c _ _)) ?_
  intro _ H106; clear H104
  have H107 := H106.conv (v' := .int .u8 ((xs.getD j.toNat 0) % 128)) (by rw [and127 hby])
  clear H106
  refine V H107 (op_conv_int Try.underlying5 Try.underlying128 rfl (H107.ev rfl)) ?_
  intro _ H109; clear H107
  have H110 := H109.conv (v' := .int .u64 ((xs.getD j.toNat 0) % 128)) (by rw [u64_in _ (by (first | omega | (simp only [List.length_drop] at *; omega))) (by (first | omega | (simp only [List.length_drop] at *; omega)))])
  clear H109
  refine V H110 (op_move rfl (H110.ev rfl)) ?_
  intro _ H112; clear H110
  refine V H112 (op_shl rfl (H112.ev rfl) (H112.ev rfl) (by (first | omega | (simp only [List.length_drop] at *; omega)))) ?_
  intro _ H114; clear H112
  have H115 := H114.conv (v' := .int .u64 ((xs.getD j.toNat 0) % 128 * 128 ^ j.toNat)) (by rw [shl7 (by (first | omega | (simp only [List.length_drop] at *; omega))) (by (first | omega | (simp only [List.length_drop] at *; omega)))])
  clear H114
  refine V H115 (op_or rfl (H115.ev rfl) (H115.ev rfl)) ?_
  intro _ H117; clear H115
  have H118 := H117.conv (v' := .int .u64 (valN xs (j.toNat + 1))) (by rw [or7 (by (first | omega | (simp only [List.length_drop] at *; omega)))])
  clear H117
  refine V H118 (op_assign rfl (H118.ev rfl)) ?_
  intro _ H120; clear H118
  refine wpList_nil ?_
  refine gw_nx (hK100 _ _ ?_)
  refine gw_seq fun K121 hK121 => ?_
  refine wp_region_lit ?_
  refine V H120 (op_move rfl (H120.ev rfl)) ?_
  intro _ H123; clear H120
  refine V H123 (op_lss rfl (H123.ev rfl) (ev_c _ _)) ?_
  intro _ H125; clear H123
  refine wpList_nil ?_
  refine gw_nx (hK121 _ _ ?_)
  refine gw_cond H125 rfl (fun hb126 => ?_) (fun hb126 => ?_)
  ·
   have H127 := H125.subst_ (d := 42) (b := true) rfl hb126
   clear H125
   (try simp only [decide_eq_true_eq] at hb126)
   refine gw_seq fun K128 hK128 => ?_
   refine wp_region_lit ?_
   refine V H127 (op_move rfl (H127.ev rfl)) ?_
   intro _ H130; clear H127
   refine V H130 (op_move rfl (H130.ev rfl)) ?_
   intro _ H132; clear H130
   refine V H132 (op_leq rfl (H132.ev rfl) (ev_c _ _)) ?_
   intro _ H134; clear H132
   refine V H134 (op_move rfl (H134.ev rfl)) ?_
   intro _ H136; clear H134
   refine gw_evG H136 rfl rfl rfl rfl (on_t _) rfl (by decide) (fun h_ => (op_move rfl (H136.ev rfl))) ?_
   intro _ H138; clear H136
   refine gw_evG H138 rfl rfl rfl rfl (on_t _) rfl (by decide) (fun h_ => (op_gtr rfl (ev_gv (H138.ev rfl) h_) (ev_c _ _))) ?_
   intro _ H140; clear H138
   refine gw_evG H140 rfl rfl rfl rfl (on_t _) rfl (by decide) (fun h_ => (op_move rfl (ev_gv (H140.ev rfl) h_))) ?_
   intro _ H142; clear H140
   refine gw_evG H142 rfl rfl rfl rfl (on_gf _ _) rfl (by decide) (fun h_ => (op_move rfl (H142.ev rfl))) ?_
   intro _ H144; clear H142
   refine gw_evG H144 rfl rfl rfl rfl (on_gf _ _) rfl (by decide) (fun h_ => (op_eqi rfl (ev_gv (H144.ev rfl) (andi (and1 h_) (and2 h_))) (ev_c _ _))) ?_
   intro _ H146; clear H144
   refine gw_evG H146 rfl rfl rfl rfl (on_t _) rfl (by decide) (fun h_ => (op_pick_or rfl (ev_gv (H146.ev rfl) h_) (ev_c _ _) (fun hp_ => (ev_gv (H146.ev rfl) (andi h_ (not_t hp_)))))) ?_
   intro _ H148; clear H146
   refine V H148 (op_pick_and rfl (H148.ev rfl) (fun hp_ => (ev_gv (H148.ev rfl) hp_)) (ev_c _ _)) ?_
   intro _ H150; clear H148
   refine gw_callP H150 (want_none rfl) rfl (by decide) (op_callL Try.func83 (by kernel_rfl) rfl rfl (ar_cons (H150.ev rfl) (ar_cons (H150.ev rfl) ar_nil))) (GRead_.need_calls ⟨g, 0, none⟩ ((decide ((valN xs (j.toNat + 1)) ≤ 4611686018427387904)) && ((decide (0 < (xs.getD j.toNat 0))) || (decide ((7 * j) = 0)))) _) ?_
   rintro e152 w153 (⟨hn151, rfl, hb154⟩ | ⟨hn151, rfl, hb154⟩)
   rotate_left
   ·
    refine .inr ⟨_, rfl, ?_⟩
    have O158 := O99.after hb154
    (try simp only [Bool.and_eq_true, Bool.or_eq_true, Bool.and_eq_false_iff, Bool.or_eq_false_iff, Bool.not_and, Bool.not_or, Bool.not_not, decide_eq_true_eq, decide_eq_false_iff_not, Bool.not_eq_true', Bool.not_eq_false', Bool.not_eq_true, Bool.not_eq_false, ne_eq, Decidable.not_not, Int.not_lt, Int.not_le, not_true_eq_false, not_false_eq_true, bne_iff_ne, beq_iff_eq, bne_eq_false_iff_eq, beq_eq_false_iff_ne] at hn151)
    refine gw_thp ?_
    refine gw_blp ?_
    refine gw_thp ?_
    refine gw_thp ?_
    refine gw_blp ?_
    refine gw_pan H150 ?_
    first | exact .inr ⟨gn_out hj.1 hj.2.1 hg (by (first | omega | (simp only [List.length_drop] at *; omega))), rfl, O158.sel [0] (by decide)⟩ | exact .inr ⟨(by rw [gn_in hj.1 hg (by (first | omega | (simp only [List.length_drop] at *; omega))) (by (first | omega | (simp only [List.length_drop] at *; omega))), if_pos (by (first | omega | (simp only [List.length_drop] at *; omega))), if_neg (by (first | omega | (simp only [List.length_drop] at *; omega)))]), rfl, O158.sel [0] (by decide)⟩
   refine .inl ⟨_, rfl, fun _ H156 => ?_⟩
   have O157 := O99.after hb154
   clear H150 O99 hb154
   (try simp only [Bool.and_eq_true, Bool.or_eq_true, Bool.and_eq_false_iff, Bool.or_eq_false_iff, Bool.not_and, Bool.not_or, Bool.not_not, decide_eq_true_eq, decide_eq_false_iff_not, Bool.not_eq_true', Bool.not_eq_false', Bool.not_eq_true, Bool.not_eq_false, ne_eq, Decidable.not_not, Int.not_lt, Int.not_le, not_true_eq_false, not_false_eq_true, bne_iff_ne, beq_iff_eq, bne_eq_false_iff_eq, beq_eq_false_iff_ne] at hn151)
   refine wpList_nil ?_
   refine gw_nx (hK128 _ _ ?_)
   refine gw_seq fun K160 hK160 => ?_
   refine wp_region_lit ?_
   refine V H156 (op_move rfl (H156.ev rfl)) ?_
   intro _ H162; clear H156
   refine V H162 (op_conv_inb Try.underlying128 Try.underlying2 rfl (H162.ev rfl) (by have hvb_ := (valN_bound xs (j.toNat + 1)).1; constructor <;> omega)) ?_
   intro _ H164; clear H162
   refine V H164 (op_assign rfl (H164.ev rfl)) ?_
   intro _ H166; clear H164
   refine wpList_nil ?_
   refine gw_nx (hK160 _ _ ?_)
   refine wp_ret ?_
   refine gw_blr ?_
   refine gw_thr ?_
   refine gw_thr ?_
   refine gw_blr ?_
   refine gw_ret1 H166 rfl rfl ?_
   have eg := gn_in hj.1 hg (by (first | omega | (simp only [List.length_drop] at *; omega))) (by (first | omega | (simp only [List.length_drop] at *; omega)))
   rw [if_pos (by (first | omega | (simp only [List.length_drop] at *; omega))), if_pos (by exact ⟨by (first | omega | (simp only [List.length_drop] at *; omega)), by (first | omega | (simp only [List.length_drop] at *; omega))⟩)] at eg
   refine .inl ⟨_, _, A83, c84, eg, rfl, ?_, ?_, ?_⟩
   ·
    intro W h; rw [show j.toNat + 1 = (j + 1).toNat by (first | omega | (simp only [List.length_drop] at *; omega)), ← drop_one_more xs j (by (first | omega | (simp only [List.length_drop] at *; omega)))]; exact hC87 W (hC W h)
   ·
    rw [show j.toNat + 1 = (j + 1).toNat by (first | omega | (simp only [List.length_drop] at *; omega)), ← drop_one_more xs j (by (first | omega | (simp only [List.length_drop] at *; omega)))]; exact hc86
   ·
    rw [show j.toNat + 1 = (j + 1).toNat by (first | omega | (simp only [List.length_drop] at *; omega)), ← drop_one_more xs j (by (first | omega | (simp only [List.length_drop] at *; omega)))]; exact O157
  ·
   have H167 := H125.subst_ (d := 42) (b := false) rfl hb126
   clear H125
   (try simp only [decide_eq_false_iff_not, Int.not_lt] at hb126)
   refine wp_skip ?_
   refine gw_blk ?_
   refine gw_nx (hK17 _ _ ?_)
   refine wp_region_lit ?_
   refine V H167 (op_move rfl (H167.ev rfl)) ?_
   intro _ H169; clear H167
   refine V H169 (op_add rfl (H169.ev rfl) (ev_c _ _) (by (first | omega | (simp only [List.length_drop] at *; omega)))) ?_
   intro _ H171; clear H169
   have H172 := H171.conv (v' := J (7 * (j + 1))) (by congr 1; omega)
   clear H171
   refine V H172 (op_assign rfl (H172.ev rfl)) ?_
   intro _ H174; clear H172
   refine wpList_nil ?_
   rw [drop_one_more xs j (by (first | omega | (simp only [List.length_drop] at *; omega)))] at O99
   (try rw [drop_one_more xs j (by (first | omega | (simp only [List.length_drop] at *; omega)))] at H174)
   rw [show valN xs (j.toNat + 1) = valN xs (j + 1).toNat from by rw [show (j + 1).toNat = j.toNat + 1 by (first | omega | (simp only [List.length_drop] at *; omega))]] at H174
   refine gw_nx ⟨_, ?_, j + 1, A83, c84, (H174.pick (t := 3) rfl (H174.pick (t := 4) rfl (H174.pick (t := 0) rfl H174.nil))), O99.sel [0, 1] (by decide), ?_, ?_, ?_, ?_, rfl⟩
   ·
    rw [hm16]; (first | omega | (simp only [List.length_drop] at *; omega))
   ·
    (first | omega | (simp only [List.length_drop] at *; omega))
   ·
    rw [gn_in hj.1 hg (by (first | omega | (simp only [List.length_drop] at *; omega))) (by (first | omega | (simp only [List.length_drop] at *; omega))), if_neg (by (first | omega | (simp only [List.length_drop] at *; omega)))]
   ·
    intro W h; rw [← drop_one_more xs j (by (first | omega | (simp only [List.length_drop] at *; omega)))]; exact hC87 W (hC W h)
   ·
    rw [← drop_one_more xs j (by (first | omega | (simp only [List.length_drop] at *; omega)))]; exact hc86
set_option maxHeartbeats 4000000 in
set_option maxRecDepth 100000 in
theorem left_calls (g : Nat) (A : Option Addr) (n c : Nat) (w : World) (hB : w.heap[g]? = some (.cells #[.slice A n c] 126 (0, 0))) :
    Calls Try.prog 73 #[.pointer (some ⟨g, 0, none⟩)] w fun e w' => e = .returned (.int .i64 n) ∧ Below w.heap.size w w' := by
 refine gw_start (N := 8) (vs := [.pointer (some ⟨g, 0, none⟩)]) Try.func73 rfl rfl (by simp) fun a HF HO => ?_
 replace HO : Own w w [] := HO
 refine gw_seq fun K1 hK1 => ?_
 refine wp_region_lit ?_
 refine V HF (op_assign rfl (ev_c _ _)) ?_
 intro _ H3; clear HF
 refine wpList_nil ?_
 refine gw_nx (hK1 _ _ ?_)
 refine gw_seq fun K4 hK4 => ?_
 refine wp_region_lit ?_
 refine V H3 (op_move rfl (H3.ev rfl)) ?_
 intro _ H6; clear H3
 refine V H6 (op_nil rfl (H6.ev rfl)) ?_
 intro _ H8; clear H6
 refine V H8 (op_field (gwfld126_0 _ _) rfl (H8.ev rfl)) ?_
 intro _ H10; clear H8
 refine V H10 (op_load1 gwagg28 rfl (H10.ev rfl) (blk_at (argblk HO hB) rfl)) ?_
 intro _ H12; clear H10
 refine V H12 (op_len Try.underlying28 rfl (H12.ev rfl)) ?_
 intro _ H14; clear H12
 refine V H14 (op_assign rfl (H14.ev rfl)) ?_
 intro _ H16; clear H14
 refine wpList_nil ?_
 refine gw_nx (hK4 _ _ ?_)
 refine wp_ret ?_
 refine gw_ret1 H16 rfl rfl ?_
 exact ⟨rfl, HO.below⟩
set_option maxHeartbeats 4000000 in
set_option maxRecDepth 100000 in
theorem readd_ok (w0 w : World) (R : Chunk) (gc : Nat) (n : Int) (HO : Own w0 w [R, Bk gc [.int .i64 n] 26]) :
    CallsD Try.prog 82 #[.pointer (some ⟨gc, 0, none⟩)] .returning w fun e u' w' => e = .returned (.tuple #[]) ∧ u' = .returning ∧ Own w0 w' [R, Chunk.blk gc (.cells #[.int .i64 n] 26 (0, 0))] := by
 refine gs_start (N := 10) (vs := [.pointer (some ⟨gc, 0, none⟩)]) Try.func82 rfl rfl (by simp) fun c0 cs hu a HF => ?_
 refine gs_recover (got := .nilIface) (u' := .returning) HF rfl rfl rfl (by decide) hu (by rfl) fun a HF => ?_
 refine wp_block ?_
 refine gw_seq fun K1 hK1 => ?_
 refine wp_region_lit ?_
 refine V HF (op_bin_run (r := .bool true) rfl (HF.ev rfl) (ev_c _ _) (by kernel_rfl)) ?_
 intro _ H3; clear HF
 refine wpList_nil ?_
 refine gw_nx (hK1 _ _ ?_)
 refine gw_cond H3 rfl (fun hb4 => ?_) (fun hb4 => ?_)
 rotate_left
 ·
  cases hb4
 refine wp_region_lit ?_
 refine V H3 (op_assign rfl (H3.ev rfl)) ?_
 intro _ H6; clear H3
 refine wpList_nil ?_
 refine gw_blk ?_
 refine gs_end0 H6 rfl ?_
 exact ⟨rfl, rfl, HO.sel [0, 1] (by decide)⟩
set_option maxHeartbeats 4000000 in
set_option maxRecDepth 100000 in
theorem readd_bad (w0 w : World) (R : Chunk) (gc : Nat) (n : Int) (HO : Own w0 w [R, Bk gc [.int .i64 n] 26]) :
    CallsD Try.prog 82 #[.pointer (some ⟨gc, 0, none⟩)] (.panicking [{ v := (.iface 124 (.agg #[])), recovered := false }]) w fun e u' w' => e = .returned (.tuple #[]) ∧ u' = .panicking [{ v := (.iface 124 (.agg #[])), recovered := true }] ∧ Own w0 w' [R, Chunk.blk gc (.cells #[.int .i64 80] 26 (0, 0))] := by
 refine gs_start (N := 10) (vs := [.pointer (some ⟨gc, 0, none⟩)]) Try.func82 rfl rfl (by simp) fun c0 cs hu a HF => ?_
 refine gs_recover (got := .iface 124 (.agg #[])) (u' := (.panicking [{ v := (.iface 124 (.agg #[])), recovered := true }])) HF rfl rfl rfl (by decide) hu (by rfl) fun a HF => ?_
 refine wp_block ?_
 refine gw_seq fun K1 hK1 => ?_
 refine wp_region_lit ?_
 refine V HF (op_bin_run (r := .bool false) rfl (HF.ev rfl) (ev_c _ _) (by kernel_rfl)) ?_
 intro _ H3; clear HF
 refine wpList_nil ?_
 refine gw_nx (hK1 _ _ ?_)
 refine gw_cond H3 rfl (fun hb4 => ?_) (fun hb4 => ?_)
 skip
 ·
  cases hb4
 refine gw_seq fun K5 hK5 => ?_
 refine wp_region_lit ?_
 refine V H3 (op_tassert (r := .tuple #[.agg #[], .bool true]) (by kernel_rfl) rfl (H3.ev rfl)) ?_
 intro _ H7; clear H3
 refine V H7 (op_extract rfl (H7.ev rfl) rfl) ?_
 intro _ H9; clear H7
 refine V H9 (op_extract rfl (H9.ev rfl) rfl) ?_
 intro _ H11; clear H9
 refine wpList_nil ?_
 refine gw_nx (hK5 _ _ ?_)
 refine gw_cond H11 rfl (fun hb12 => ?_) (fun hb12 => ?_)
 rotate_left
 ·
  cases hb12
 refine gw_seq fun K13 hK13 => ?_
 refine wp_region_lit ?_
 refine gw_new H11 HO (want_none rfl) rfl (by decide) (op_alloc gwzer124 rfl) ?_
 intro g14 _ w16 H17 O18; clear H11 HO
 have O19 : Own w0 w16 [Bk g14 [] 124, R, Bk gc [J n] 26] := O18
 clear O18
 refine gw_setn 0 H17 O19 rfl (want_none rfl) rfl (op_storen gwsiz124 rfl (H17.ev rfl) (H17.ev rfl) (O19.get 0 rfl) rfl (by simp) (by simp [Value.oneCell'])) ?_
 intro _ w22 H21 O23; clear H17 O19
 have O24 : Own w0 w22 [Bk g14 [] 124, R, Bk gc [J n] 26] := O23
 clear O23
 refine wpList_nil ?_
 refine gw_nx (hK13 _ _ ?_)
 refine wp_region_lit ?_
 refine gw_set 2 H21 O24 rfl (want_none rfl) rfl (op_store1 gwsiz26 rfl (H21.ev rfl) (ev_c _ _) rfl (blk_at (O24.get 2 rfl) rfl) (blkf (O24.get 2 rfl))) ?_
 intro _ w27 H26 O28; clear H21 O24
 have O29 : Own w0 w27 [Bk g14 [] 124, R, Bk gc [J 80] 26] := O28
 clear O28
 refine wpList_nil ?_
 refine gw_blk ?_
 refine gs_end0 H26 rfl ?_
 exact ⟨rfl, rfl, O29.sel [1, 2] (by decide)⟩
set_option maxHeartbeats 4000000 in
set_option maxRecDepth 100000 in
theorem readd_mine (w0 w : World) (R : Chunk) (gc : Nat) (n : Int) (HO : Own w0 w [R, Bk gc [.int .i64 n] 26]) :
    CallsD Try.prog 82 #[.pointer (some ⟨gc, 0, none⟩)] (.panicking [{ v := (.iface 9 (.string (⟨#[109, 105, 110, 101]⟩ : ByteArray))), recovered := false }]) w fun e u' w' => e = .panicked [{ v := (.iface 9 (.string (⟨#[109, 105, 110, 101]⟩ : ByteArray))), recovered := false }] ∧ u' = .panicking [{ v := (.iface 9 (.string (⟨#[109, 105, 110, 101]⟩ : ByteArray))), recovered := true }] ∧ Own w0 w' [R, Chunk.blk gc (.cells #[.int .i64 n] 26 (0, 0))] := by
 refine gs_start (N := 10) (vs := [.pointer (some ⟨gc, 0, none⟩)]) Try.func82 rfl rfl (by simp) fun c0 cs hu a HF => ?_
 refine gs_recover (got := .iface 9 (.string (⟨#[109, 105, 110, 101]⟩ : ByteArray))) (u' := (.panicking [{ v := (.iface 9 (.string (⟨#[109, 105, 110, 101]⟩ : ByteArray))), recovered := true }])) HF rfl rfl rfl (by decide) hu (by rfl) fun a HF => ?_
 refine wp_block ?_
 refine gw_seq fun K1 hK1 => ?_
 refine wp_region_lit ?_
 refine V HF (op_bin_run (r := .bool false) rfl (HF.ev rfl) (ev_c _ _) (by kernel_rfl)) ?_
 intro _ H3; clear HF
 refine wpList_nil ?_
 refine gw_nx (hK1 _ _ ?_)
 refine gw_cond H3 rfl (fun hb4 => ?_) (fun hb4 => ?_)
 skip
 ·
  cases hb4
 refine gw_seq fun K5 hK5 => ?_
 refine wp_region_lit ?_
 refine V H3 (op_tassert (r := .tuple #[.agg #[], .bool false]) (by kernel_rfl) rfl (H3.ev rfl)) ?_
 intro _ H7; clear H3
 refine V H7 (op_extract rfl (H7.ev rfl) rfl) ?_
 intro _ H9; clear H7
 refine V H9 (op_extract rfl (H9.ev rfl) rfl) ?_
 intro _ H11; clear H9
 refine wpList_nil ?_
 refine gw_nx (hK5 _ _ ?_)
 refine gw_cond H11 rfl (fun hb12 => ?_) (fun hb12 => ?_)
 skip
 ·
  cases hb12
 refine gw_seq fun K13 hK13 => ?_
 refine wp_region_lit ?_
 refine V H11 (op_assign rfl (H11.ev rfl)) ?_
 intro _ H15; clear H11
 refine wpList_nil ?_
 refine gw_nx (hK13 _ _ ?_)
 refine wp_region_lit ?_
 refine V H15 (op_move rfl (H15.ev rfl)) ?_
 intro _ H17; clear H15
 refine gw_panic (want_none rfl) (panics_ rfl (H17.ev rfl)) ?_
 refine gw_blp ?_
 refine gs_pan H17 ?_
 exact ⟨rfl, rfl, HO.sel [0, 1] (by decide)⟩
set_option maxHeartbeats 4000000 in
set_option maxRecDepth 100000 in
theorem read_calls (w0 w : World) (R X : Chunk) (A : Option Addr) (c : Nat) (xs : List Int) (fid : Nat) (fn0 : Func) (cap : List Value) (Gd : Nat → Chunk → Prop) (Bd Md : Chunk → Prop) (h1 : Try.prog.funcs[fid]? = some fn0) (h2 : (fn0.name == "runtime.NumGoroutine") = false) (h3 : fn0.body.isSome = true) (hf : ∀ (R' : Chunk) (g : Nat) (w1 : World), (∀ w_, Own w0 w_ [R'] → Own w0 w_ [R]) → Own w0 w1 [R', Chunk.blk g (.cells #[.slice A xs.length c] 126 (0, 0)), X] → Calls Try.prog fid (([.pointer (some ⟨g, 0, none⟩)] : List Value) ++ cap).toArray w1 fun e w2 => (∃ A' n' c' Y, e = .returned (.tuple #[]) ∧ Gd n' Y ∧ Own w0 w2 [R', Chunk.blk g (.cells #[.slice A' n' c'] 126 (0, 0)), Y]) ∨ (∃ Y, e = .panicked [{ v := .iface 124 (.agg #[]), recovered := false }] ∧ Bd Y ∧ Own w0 w2 [R', Y]) ∨ (∃ Y, e = .panicked [{ v := .iface 9 (.string (⟨#[109, 105, 110, 101]⟩ : ByteArray)), recovered := false }] ∧ Md Y ∧ Own w0 w2 [R', Y])) (HO : Own w0 w [R, X]) :
    Calls Try.prog 70 #[.slice A xs.length c, .func (.func fid) #[] cap.toArray] w fun e w' => (∃ n' Y, e = .returned (.int .i64 (if n' = 0 then 0 else 80)) ∧ Gd n' Y ∧ Own w0 w' [R, Y]) ∨ (∃ Y, e = .returned (.int .i64 80) ∧ Bd Y ∧ Own w0 w' [R, Y]) ∨ (∃ Y, e = .panicked [{ v := (.iface 9 (.string (⟨#[109, 105, 110, 101]⟩ : ByteArray))), recovered := false }, { v := (.iface 9 (.string (⟨#[109, 105, 110, 101]⟩ : ByteArray))), recovered := true }] ∧ Md Y ∧ Own w0 w' [R, Y]) := by
 refine gw_startD (N := 21) (vs := [.slice A xs.length c, .func (.func fid) #[] cap.toArray]) Try.func70 rfl rfl (by simp) fun a HF => ?_
 refine gw_seq fun K1 hK1 => ?_
 refine wp_region_lit ?_
 refine gw_new HF HO (want_none rfl) rfl (by decide) (op_alloc gwzer26 rfl) ?_
 intro g2 _ w4 H5 O6; clear HF HO
 have O7 : Own w0 w4 [Bk g2 [J 0] 26, R, X] := O6
 clear O6
 refine wpList_nil ?_
 refine gw_nx (hK1 _ _ ?_)
 refine gw_seq fun K8 hK8 => ?_
 refine wp_region_lit ?_
 refine V H5 (op_func rfl (ar_cons (H5.ev rfl) ar_nil)) ?_
 intro _ H10; clear H5
 refine gw_defer H10 (want_none rfl) rfl rfl (H10.ev rfl) ?_
 intro _ H12; clear H10
 refine wpList_nil ?_
 refine gw_nx (hK8 _ _ ?_)
 refine gw_seq fun K13 hK13 => ?_
 refine wp_region_lit ?_
 refine V H12 (op_move rfl (H12.ev rfl)) ?_
 intro _ H15; clear H12
 refine V H15 (op_build (cells := #[.slice A xs.length c]) rfl (pt_cons (H15.ev rfl) pt_nil) (by kernel_rfl)) ?_
 intro _ H17; clear H15
 refine gw_new H17 O7 (want_none rfl) rfl (by decide) (op_box rfl (H17.ev rfl)) ?_
 intro g18 _ w20 H21 O22; clear H17 O7
 have O23 : Own w0 w20 [Bk g18 [.slice A xs.length c] 126, Bk g2 [J 0] 26, R, X] := O22
 clear O22
 refine V H21 (op_assign rfl (H21.ev rfl)) ?_
 intro _ H25; clear H21
 refine wpList_nil ?_
 refine gw_nx (hK13 _ _ ?_)
 refine gw_seq fun K26 hK26 => ?_
 refine wp_region_lit ?_
 refine V H25 (op_move rfl (H25.ev rfl)) ?_
 intro _ H28; clear H25
 refine V H28 (op_move rfl (H28.ev rfl)) ?_
 intro _ H30; clear H28
 have O42 : Own w0 _ [(Chunk.all [Bk g2 [J 0] 26, R]), Bk g18 [.slice A xs.length c] 126, X] := Own.bundle (A := [Bk g2 [J 0] 26, R]) (L := [Bk g18 [.slice A xs.length c] 126, X]) (O23.sel [1, 2, 0, 3] (by decide))
 refine gw_callP H30 (want_none rfl) rfl (by decide) (op_callV h1 h2 h3 rfl (H30.ev rfl) (ar_cons (H30.ev rfl) ar_nil)) (hf (Chunk.all [Bk g2 [J 0] 26, R]) g18 _ (fun w_ h_ => (Own.unbundle (A := [Bk g2 [J 0] 26, R]) (L := []) h_).sel [1] (by decide)) O42) ?_
 rintro e36 w37 (⟨A33, n34, c35, Y31, rfl, hG32, hb38⟩ | ⟨Y31, rfl, hG32, hb38⟩ | ⟨Y31, rfl, hG32, hb38⟩)
 rotate_left
 ·
  refine .inr ⟨_, rfl, ?_⟩
  have O43 : Own w0 w37 [Bk g2 [J 0] 26, R, Y31] := Own.unbundle (A := [Bk g2 [J 0] 26, R]) (L := [Y31]) hb38
  refine gw_thp ?_
  refine gw_dpan H30 ?_
  refine leaves_cons (f := 82) (args := #[.pointer (some ⟨g2, 0, none⟩)]) (by simp) (invoke_fn Try.func82 (by kernel_rfl) rfl _) ?_
  refine (readd_bad w0 _ (Chunk.all [R, Y31]) g2 0 (Own.bundle (A := [R, Y31]) (L := [Bk g2 [J 0] 26]) (O43.sel [1, 2, 0] (by decide)))).mono ?_
  rintro e_ u_ w_ ⟨rfl, rfl, hO_⟩
  replace hO_ := (Own.unbundle (A := [R, Y31]) (L := [Chunk.blk g2 (.cells #[J 80] 26 (0, 0))]) hO_)
  refine gl_ret1 rfl (rv_cell1 H30 rfl gwagg26 (blk_at (hO_.get 2 rfl) rfl)) ?_
  exact .inr (.inl ⟨_, rfl, hG32, hO_.sel [0, 1] (by decide)⟩)
 skip
 ·
  refine .inr ⟨_, rfl, ?_⟩
  have O44 : Own w0 w37 [Bk g2 [J 0] 26, R, Y31] := Own.unbundle (A := [Bk g2 [J 0] 26, R]) (L := [Y31]) hb38
  refine gw_thp ?_
  refine gw_dpan H30 ?_
  refine leaves_cons (f := 82) (args := #[.pointer (some ⟨g2, 0, none⟩)]) (by simp) (invoke_fn Try.func82 (by kernel_rfl) rfl _) ?_
  refine (readd_mine w0 _ (Chunk.all [R, Y31]) g2 0 (Own.bundle (A := [R, Y31]) (L := [Bk g2 [J 0] 26]) (O44.sel [1, 2, 0] (by decide)))).mono ?_
  rintro e_ u_ w_ ⟨rfl, rfl, hO_⟩
  replace hO_ := (Own.unbundle (A := [R, Y31]) (L := [Chunk.blk g2 (.cells #[J 0] 26 (0, 0))]) hO_)
  exact .inr (.inr ⟨_, rfl, hG32, hO_.sel [0, 1] (by decide)⟩)
 refine .inl ⟨_, rfl, fun _ H40 => ?_⟩
 have O41 : Own w0 w37 [Bk g2 [J 0] 26, R, Bk g18 [.slice A33 n34 c35] 126, Y31] := Own.unbundle (A := [Bk g2 [J 0] 26, R]) (L := [Bk g18 [.slice A33 n34 c35] 126, Y31]) (hb38.sel [0, 1, 2] (by decide))
 clear O42
 clear H30 O23 hb38
 have O46 : Own w0 w37 [Bk g2 [J 0] 26, R, Bk g18 [.slice A33 n34 c35] 126, Y31] := O41
 clear O41
 refine wpList_nil ?_
 refine gw_nx (hK26 _ _ ?_)
 refine gw_seq fun K47 hK47 => ?_
 refine wp_region_lit ?_
 refine V H40 (op_move rfl (H40.ev rfl)) ?_
 intro _ H49; clear H40
 refine V H49 (op_move rfl (H49.ev rfl)) ?_
 intro _ H51; clear H49
 refine V H51 (op_nil rfl (H51.ev rfl)) ?_
 intro _ H53; clear H51
 refine V H53 (op_field (gwfld126_0 _ _) rfl (H53.ev rfl)) ?_
 intro _ H55; clear H53
 refine V H55 (op_load1 gwagg28 rfl (H55.ev rfl) (blk_at (O46.get 2 rfl) rfl)) ?_
 intro _ H57; clear H55
 refine V H57 (op_len Try.underlying28 rfl (H57.ev rfl)) ?_
 intro _ H59; clear H57
 refine V H59 (op_eqi rfl (H59.ev rfl) (ev_c _ _)) ?_
 intro _ H61; clear H59
 refine gw_callP H61 (want_none rfl) rfl (by decide) (op_callL Try.func83 (by kernel_rfl) rfl rfl (ar_cons (H61.ev rfl) (ar_cons (H61.ev rfl) ar_nil))) (GRead_.need_calls ⟨g18, 0, none⟩ (decide ((n34 : Int) = 0)) _) ?_
 rintro e63 w64 (⟨hn62, rfl, hb65⟩ | ⟨hn62, rfl, hb65⟩)
 rotate_left
 ·
  refine .inr ⟨_, rfl, ?_⟩
  have O69 := O46.after hb65
  (try simp only [Bool.and_eq_true, Bool.or_eq_true, Bool.and_eq_false_iff, Bool.or_eq_false_iff, Bool.not_and, Bool.not_or, Bool.not_not, decide_eq_true_eq, decide_eq_false_iff_not, Bool.not_eq_true', Bool.not_eq_false', Bool.not_eq_true, Bool.not_eq_false, ne_eq, Decidable.not_not, Int.not_lt, Int.not_le, not_true_eq_false, not_false_eq_true, bne_iff_ne, beq_iff_eq, bne_eq_false_iff_eq, beq_eq_false_iff_ne] at hn62)
  refine gw_thp ?_
  refine gw_dpan H61 ?_
  refine leaves_cons (f := 82) (args := #[.pointer (some ⟨g2, 0, none⟩)]) (by simp) (invoke_fn Try.func82 (by kernel_rfl) rfl _) ?_
  refine (readd_bad w0 _ (Chunk.all [R, Bk g18 [.slice A33 n34 c35] 126, Y31]) g2 0 (Own.bundle (A := [R, Bk g18 [.slice A33 n34 c35] 126, Y31]) (L := [Bk g2 [J 0] 26]) (O69.sel [1, 2, 3, 0] (by decide)))).mono ?_
  rintro e_ u_ w_ ⟨rfl, rfl, hO_⟩
  replace hO_ := (Own.unbundle (A := [R, Bk g18 [.slice A33 n34 c35] 126, Y31]) (L := [Chunk.blk g2 (.cells #[J 80] 26 (0, 0))]) hO_)
  refine gl_ret1 rfl (rv_cell1 H61 rfl gwagg26 (blk_at (hO_.get 3 rfl) rfl)) ?_
  exact .inl ⟨_, _, (by rw [if_neg (by omega)]; rfl), hG32, hO_.sel [0, 2] (by decide)⟩
 refine .inl ⟨_, rfl, fun _ H67 => ?_⟩
 have O68 := O46.after hb65
 clear H61 O46 hb65
 (try simp only [Bool.and_eq_true, Bool.or_eq_true, Bool.and_eq_false_iff, Bool.or_eq_false_iff, Bool.not_and, Bool.not_or, Bool.not_not, decide_eq_true_eq, decide_eq_false_iff_not, Bool.not_eq_true', Bool.not_eq_false', Bool.not_eq_true, Bool.not_eq_false, ne_eq, Decidable.not_not, Int.not_lt, Int.not_le, not_true_eq_false, not_false_eq_true, bne_iff_ne, beq_iff_eq, bne_eq_false_iff_eq, beq_eq_false_iff_ne] at hn62)
 refine wpList_nil ?_
 refine gw_nx (hK47 _ _ ?_)
 refine gw_seq fun K71 hK71 => ?_
 refine wp_region_lit ?_
 refine gw_set 0 H67 O68 rfl (want_none rfl) rfl (op_store1 gwsiz26 rfl (H67.ev rfl) (ev_c _ _) rfl (blk_at (O68.get 0 rfl) rfl) (blkf (O68.get 0 rfl))) ?_
 intro _ w74 H73 O75; clear H67 O68
 have O76 : Own w0 w74 [Bk g2 [J 0] 26, R, Bk g18 [.slice A33 n34 c35] 126, Y31] := O75
 clear O75
 refine wpList_nil ?_
 refine gw_nx (hK71 _ _ ?_)
 refine wp_ret ?_
 refine gw_dret H73 ?_
 refine leaves_cons (f := 82) (args := #[.pointer (some ⟨g2, 0, none⟩)]) (by simp) (invoke_fn Try.func82 (by kernel_rfl) rfl _) ?_
 refine (readd_ok w0 _ (Chunk.all [R, Bk g18 [.slice A33 n34 c35] 126, Y31]) g2 0 (Own.bundle (A := [R, Bk g18 [.slice A33 n34 c35] 126, Y31]) (L := [Bk g2 [J 0] 26]) (O76.sel [1, 2, 3, 0] (by decide)))).mono ?_
 rintro e_ u_ w_ ⟨rfl, rfl, hO_⟩
 replace hO_ := (Own.unbundle (A := [R, Bk g18 [.slice A33 n34 c35] 126, Y31]) (L := [Chunk.blk g2 (.cells #[J 0] 26 (0, 0))]) hO_)
 refine gl_ret1 rfl (rv_cell1 H73 rfl gwagg26 (blk_at (hO_.get 3 rfl) rfl)) ?_
 exact .inl ⟨_, _, (by rw [if_pos (by omega)]; rfl), hG32, hO_.sel [0, 2] (by decide)⟩
end GRead_
end Go.Proofs.Ytkdahjnmldeklaa.PA
end
section
namespace Go.Proofs.Ytkdahjnmldeklaa.PA
open Go.RowKit Go.Proofs.YtkdahjnmldeklaaW.PrintWords Go.Proofs.YtkdahjnmldeklaaW.PrintLast Go.Proofs.YtkdahjnmldeklaaW.PrintMore
set_option linter.unusedVariables false
set_option linter.unusedSimpArgs false
section
variable {w0 w : World} {c d x : Chunk} {L qs : List Chunk}
theorem Own.out2 (h : Own w0 w [c, d, Chunk.all qs]) : Own w0 w (c :: d :: qs) := by
  have h1 : Own w0 w [Chunk.all qs, c, d] := h.sel [2, 0, 1] (by decide)
  have h2 := h1.unbundle
  exact ⟨h2.below, fun e he => h2.holds e (by simp only [List.mem_cons, List.mem_append, List.mem_nil_iff, or_false] at he ⊢; rcases he with he | he | he <;> simp [he]), fun e he => h2.inside e (by simp only [List.mem_cons, List.mem_append, List.mem_nil_iff, or_false] at he ⊢; rcases he with he | he | he <;> simp [he]),
    List.Perm.pairwise (List.perm_append_comm (l₁ := qs) (l₂ := [c, d])) h2.apart (fun h => ap_symm _ _ h)⟩
theorem Own.in2 (h : Own w0 w (c :: d :: qs)) : Own w0 w [c, d, Chunk.all qs] := by
  have h1 : Own w0 w (qs ++ [c, d]) := ⟨h.below, fun e he => h.holds e (by simp only [List.mem_cons, List.mem_append, List.mem_nil_iff, or_false] at he ⊢; rcases he with he | he | he <;> simp [he]), fun e he => h.inside e (by simp only [List.mem_cons, List.mem_append, List.mem_nil_iff, or_false] at he ⊢; rcases he with he | he | he <;> simp [he]),
    List.Perm.pairwise (List.perm_append_comm (l₁ := [c, d]) (l₂ := qs)) h.apart (fun h => ap_symm _ _ h)⟩
  exact (Own.bundle h1).sel [1, 2, 0] (by decide)
theorem Own.out1 (h : Own w0 w [c, Chunk.all qs]) : Own w0 w (c :: qs) := by
  have h1 : Own w0 w [Chunk.all qs, c] := h.sel [1, 0] (by decide)
  have h2 := h1.unbundle
  exact ⟨h2.below, fun e he => h2.holds e (by simp only [List.mem_cons, List.mem_append, List.mem_nil_iff, or_false] at he ⊢; rcases he with he | he <;> simp [he]), fun e he => h2.inside e (by simp only [List.mem_cons, List.mem_append, List.mem_nil_iff, or_false] at he ⊢; rcases he with he | he <;> simp [he]),
    List.Perm.pairwise (List.perm_append_comm (l₁ := qs) (l₂ := [c])) h2.apart (fun h => ap_symm _ _ h)⟩
theorem Own.in1 (h : Own w0 w (c :: qs)) : Own w0 w [c, Chunk.all qs] := by
  have h1 : Own w0 w (qs ++ [c]) := ⟨h.below, fun e he => h.holds e (by simp only [List.mem_cons, List.mem_append, List.mem_nil_iff, or_false] at he ⊢; rcases he with he | he <;> simp [he]), fun e he => h.inside e (by simp only [List.mem_cons, List.mem_append, List.mem_nil_iff, or_false] at he ⊢; rcases he with he | he <;> simp [he]),
    List.Perm.pairwise (List.perm_append_comm (l₁ := [c]) (l₂ := qs)) h.apart (fun h => ap_symm _ _ h)⟩
  exact (Own.bundle h1).sel [1, 0] (by decide)
end
abbrev rblk (g : Nat) (A : Option Addr) (n c : Nat) : Chunk := Chunk.blk g (.cells #[.slice A n c] 126 (0, 0))
abbrev badE : List PanicEntry := [{ v := .iface 124 (.agg #[]), recovered := false }]
abbrev mineV : Value := .iface 9 (.string (⟨#[109, 105, 110, 101]⟩ : ByteArray))
theorem read_list (w0 w : World) (R : Chunk) (ps : List Chunk) (A : Option Addr) (c : Nat) (xs : List Int) (fid : Nat) (fn0 : Func) (cap : List Value) (Gd : Nat → List Chunk → Prop) (Bd Md : List Chunk → Prop) (h1 : Try.prog.funcs[fid]? = some fn0) (h2 : (fn0.name == "runtime.NumGoroutine") = false) (h3 : fn0.body.isSome = true)
    (hf : ∀ (R' : Chunk) (g : Nat) (w1 : World), (∀ w_, Own w0 w_ [R'] → Own w0 w_ [R]) → Own w0 w1 (R' :: rblk g A xs.length c :: ps) → Calls Try.prog fid (([.pointer (some ⟨g, 0, none⟩)] : List Value) ++ cap).toArray w1 fun e w2 => (∃ A' n' c' qs, e = .returned (.tuple #[]) ∧ Gd n' qs ∧ Own w0 w2 (R' :: rblk g A' n' c' :: qs)) ∨ (∃ qs, e = .panicked badE ∧ Bd qs ∧ Own w0 w2 (R' :: qs)) ∨ (∃ qs, e = .panicked [{ v := mineV, recovered := false }] ∧ Md qs ∧ Own w0 w2 (R' :: qs)))
    (HO : Own w0 w (R :: ps)) : Calls Try.prog 70 #[.slice A xs.length c, .func (.func fid) #[] cap.toArray] w fun e w' => (∃ n' qs, e = .returned (.int .i64 (if n' = 0 then 0 else 80)) ∧ Gd n' qs ∧ Own w0 w' (R :: qs)) ∨ (∃ qs, e = .returned (.int .i64 80) ∧ Bd qs ∧ Own w0 w' (R :: qs)) ∨ (∃ qs, e = .panicked [{ v := mineV, recovered := false }, { v := mineV, recovered := true }] ∧ Md qs ∧ Own w0 w' (R :: qs)) := by
  refine (GRead_.read_calls w0 w R (Chunk.all ps) A c xs fid fn0 cap (fun n Y => ∃ qs, Y = Chunk.all qs ∧ Gd n qs) (fun Y => ∃ qs, Y = Chunk.all qs ∧ Bd qs) (fun Y => ∃ qs, Y = Chunk.all qs ∧ Md qs) h1 h2 h3 ?_ HO.in1).mono ?_
  · intro R' g w1 hR hO
    refine (hf R' g w1 hR hO.out2).mono ?_
    rintro e w2 (⟨A', n', c', qs, rfl, hG, h⟩ | ⟨qs, rfl, hB, h⟩ | ⟨qs, rfl, hM, h⟩)
    · exact .inl ⟨A', n', c', _, rfl, ⟨qs, rfl, hG⟩, h.in2⟩
    · exact .inr (.inl ⟨_, rfl, ⟨qs, rfl, hB⟩, h.in1⟩)
    · exact .inr (.inr ⟨_, rfl, ⟨qs, rfl, hM⟩, h.in1⟩)
  · rintro e w2 (⟨n', Y, rfl, ⟨qs, rfl, hG⟩, h⟩ | ⟨Y, rfl, ⟨qs, rfl, hB⟩, h⟩ | ⟨Y, rfl, ⟨qs, rfl, hM⟩, h⟩)
    · exact .inl ⟨n', qs, rfl, hG, h.out1⟩
    · exact .inr (.inl ⟨qs, rfl, hB, h.out1⟩)
    · exact .inr (.inr ⟨qs, rfl, hM, h.out1⟩)
end Go.Proofs.Ytkdahjnmldeklaa.PA
end
section
namespace Go.Proofs
open Go.RowKit Go.Maps Go.Sort Go.Shelf
shelf_lay_g SlLaysZI.n7 Ggz 7 at Try 63 as Try.keysI
shelf_lay_g SlLaysZI.n6 Ggz 6 at Try 62 as Try.sortedI
shelf_lay_g SlLaysM.n5 Slgm 5 at Try 77 as Try.sortI
theorem Try.sortsI (m : Nat) : AnyZI.SortsIn Try.prog Try.sortedI_ren Fence.wide m :=
  ⟨fun blk off cap ss W hH hblk hsz => callsIn_wide.2 (AnyM.slices_Sort_int Try.sortI blk off cap ss W hH hblk hsz),
   fun p cap W => callsIn_wide.2 (AnyM.slices_Sort_int_none Try.sortI p cap W)⟩
theorem Try.keysI_at (mb : Option Nat) (W : World) : CallsIn Fence.wide 5 Try.prog 63 #[.map mb] W fun e w' => e = .returned (.func (.func 78) #[] #[.pointer (some ⟨W.heap.size, 0, none⟩)]) ∧ w' = W.alloc (.cells #[.map mb] 98) :=
  AnyZI.keys_in Try.keysI Fence.wide 5 trivial rfl mb W
set_option maxHeartbeats 1000000 in
theorem Try.sortedI_at {H : Type} (b nn : Nat) (D0 : DataW H) (R : Value → Option (DataW H × List MemPlace)) (w : World) (hown : w.ownsMap Try.prog 2 R b nn D0) (hmax : Maps.size D0 ≤ maxLen) (hbytes : Maps.size D0 * 8 ≤ 140737488355328) :
    CallsIn Fence.wide 5 Try.prog 62 #[.func (.func 78) #[] #[.pointer (some ⟨w.heap.size, 0, none⟩)]] (w.alloc (.cells #[.map (some b)] 98)) fun e w' => ∃ (v : Value) (ss : List Int), e = .returned v ∧ ss.Perm (intKeys D0) ∧
      w'.ownsRow (w.alloc (.cells #[.map (some b)] 98)).heap.size 2 1 v ss.length ((ss.mergeSort (fun x y => decide (x ≤ y))).map encZ) ∧ (v = .slice none 0 0 ↔ ss = []) ∧ Below (w.alloc (.cells #[.map (some b)] 98)).heap.size (w.alloc (.cells #[.map (some b)] 98)) w' := by
  have hbl := hown.lt
  have hseq : SeqGives Fence.wide 2 Try.prog 78 #[.pointer (some ⟨w.heap.size, 0, none⟩)] encZ (fun ss => ss.Perm (intKeys D0)) (Maps.size D0) (w.alloc (.cells #[.map (some b)] 98)) :=
    AnyZI.keys_gives (ρ := Try.keysI_ren) { Try.keysI with } Fence.wide _ trivial rfl (by omega) w.heap.size b nn D0 _ (by simp) (by simp) (by
      obtain ⟨es, clock, hb, Ft, hs, hD⟩ := hown
      exact ⟨es, clock, (Below.heap_alloc _ _ b hbl).trans hb, Ft, hs, hD⟩)
  exact AnyZI.sorted_in Try.sortedI Fence.wide 5 trivial trivial trivial trivial rfl (by omega) (Try.sortsI _) (enters_of Try.func77 (by kernel_rfl) rfl) 78 #[.pointer (some ⟨w.heap.size, 0, none⟩)] trivial (enters_of Try.func78 (by kernel_rfl) rfl) _ _ hmax hbytes _ hseq
end Go.Proofs
end
section
namespace Go.Proofs.Ytkdahjnmldeklaa.PA
open Go.RowKit Go.Proofs.YtkdahjnmldeklaaW.PrintWords Go.Proofs.YtkdahjnmldeklaaW.PrintLast Go.Proofs.YtkdahjnmldeklaaW.PrintMore
attribute [local go_sem] max2_int min2_int max_two min_two max_three min_three max_four min_four   -- for this text's walks alone
set_option linter.unusedVariables false
set_option linter.unusedSimpArgs false
def colloquyref01_SameBytes.l0 : Nat → List Int → List Int → Int → Option (Bool)
  | 0, _, _, _ => none
  | k + 1, x0, x1, x5 => if x5 < (x0.length : Int) then (if 0 ≤ x5 then (if x5 < (x1.length : Int) then (if (rd x0 x5) = (rd x1 x5) then (colloquyref01_SameBytes.l0 k x0 x1 (wrap64 (x5 + 1))) else (some false)) else (none)) else (none)) else (some true)
def colloquyref01_SameBytes.f (k : Nat) (l0 : List Int) (l1 : List Int) : Option (Bool) := if (l0.length : Int) = (l1.length : Int) then (colloquyref01_SameBytes.l0 k l0 l1 0) else (some false)
theorem colloquyref01_SameBytes.mono_l : ∀ k, (∀ y0 y1 y2, LeO (colloquyref01_SameBytes.l0 k y0 y1 y2) (colloquyref01_SameBytes.l0 (k + 1) y0 y1 y2))
  | 0 => fun _ _ _ r h => by simp [colloquyref01_SameBytes.l0] at h
  | k + 1 => by
    have ih0 := colloquyref01_SameBytes.mono_l k
    · intro y0 y1 y2
      unfold colloquyref01_SameBytes.l0
      repeat' first
      | (with_reducible exact ih0 _ _ _)
      | (with_reducible exact LeO.refl _)
      | (with_reducible exact LeO.none _)
      | (with_reducible refine LeO.ite ?_ ?_)
      | (with_reducible refine LeO.bind ?_ (fun _ => ?_))
      | exact ih0 _ _ _
      | exact LeO.none _
      | refine LeO.ite ?_ ?_
      | refine LeO.bind ?_ (fun _ => ?_)
theorem colloquyref01_SameBytes.mono : ∀ a0 a1 k, LeO (colloquyref01_SameBytes.f k a0 a1) (colloquyref01_SameBytes.f (k + 1) a0 a1) := by
  intro a0 a1 k
  have ih0 := colloquyref01_SameBytes.mono_l k
  unfold colloquyref01_SameBytes.f
  repeat' first
      | (with_reducible exact ih0 _ _ _)
      | (with_reducible exact LeO.refl _)
      | (with_reducible exact LeO.none _)
      | (with_reducible refine LeO.ite ?_ ?_)
      | (with_reducible refine LeO.bind ?_ (fun _ => ?_))
      | exact ih0 _ _ _
      | exact LeO.none _
      | refine LeO.ite ?_ ?_
      | refine LeO.bind ?_ (fun _ => ?_)
set_option maxHeartbeats 8000000 in
set_option maxRecDepth 100000 in
theorem colloquyref01_SameBytes.calls (k : Nat) (A0 : Option Addr) (c0 : Nat) (l0 : List Int) (A1 : Option Addr) (c1 : Nat) (l1 : List Int) (r : Bool) (w : World) (hr0 : Kd.C (Kd.int .u8) w A0 l0.length l0) (hc0 : l0.length ≤ c0) (hr1 : Kd.C (Kd.int .u8) w A1 l1.length l1) (hc1 : l1.length ≤ c1) (h : colloquyref01_SameBytes.f k l0 l1 = some r) :
    Calls Try.prog 19 #[.slice A0 l0.length c0, .slice A1 l1.length c1] w fun e w' => e = .returned (.bool r) ∧ Drawn0 w w' := by
  have HR0 := Aside0.mk hr0
  have HC0 := Aside0.mk hc0
  clear hr0 hc0
  have HR1 := Aside0.mk hr1
  have HC1 := Aside0.mk hc1
  clear hr1 hc1
  have H : (if (l0.length : Int) = (l1.length : Int) then (colloquyref01_SameBytes.l0 k l0 l1 0) else (some false)) = some r := h
  clear h
  by_cases c3 : (l0.length : Int) = (l1.length : Int)
  · rw [if_pos c3] at H
    have c3b0 : ((l0.length : Int) == (l1.length : Int)) = true := beq_iff_eq.mpr c3
    have c3b1 : ((l0.length : Int) != (l1.length : Int)) = false := bne_eq_false_iff_eq.mpr c3
    have c3b2 : (l0.length == l1.length) = true := by first | simpa using c3 | (simp at c3 ⊢; omega)
    clear c3
    have H' := Aside0.mk H
    clear H
    go_enter Try.func19, Try.ntmps19
    go_wp2
    repeat (go_quiet (fail); try go_wp2)
    go_loopg [5] k (fun kq v5 w' => ∃ (x5_1 : Int), v5 = .int .i64 x5_1 ∧ Aside0 (colloquyref01_SameBytes.l0 kq l0 l1 x5_1 = some r) ∧ Aside0 (kq ≤ k) ∧ Drawn0 w w')
    case atStart => exact ⟨(0), (by first | rfl | (simp; done) | (simp [*]; done)), H', ⟨Nat.le_refl _⟩, by repeat (first | exact Drawn0.refl _ | apply Drawn0.step)⟩
    case round =>
      clear H'
      try clear c1
      try clear p2
      try clear c3
      try clear c3b0
      try clear c3b1
      try clear c3b2
      obtain ⟨x5_1, rfl, HA, HK1, ⟨m1, rfl⟩⟩ := hrel
      cases gk with
      | zero => exact absurd HA.out (by simp [colloquyref01_SameBytes.l0])
      | succ k1 =>
        have H := HA.out
        clear HA
        simp only [colloquyref01_SameBytes.l0] at H
        by_cases c4 : x5_1 < (l0.length : Int)
        · rw [if_pos c4] at H
          have c4b0 : decide (x5_1 < (l0.length : Int)) = true := decide_eq_true c4
          clear c4
          by_cases c5 : 0 ≤ x5_1
          · rw [if_pos c5] at H
            have c5b0 : decide (0 ≤ x5_1) = true := decide_eq_true c5
            clear c5
            by_cases c6 : x5_1 < (l1.length : Int)
            · rw [if_pos c6] at H
              have c6b0 : decide (x5_1 < (l1.length : Int)) = true := decide_eq_true c6
              clear c6
              by_cases c7 : (rd l0 x5_1) = (rd l1 x5_1)
              · rw [if_pos c7] at H
                have c7b0 : ((rd l0 x5_1) == (rd l1 x5_1)) = true := beq_iff_eq.mpr c7
                have c7b1 : ((rd l0 x5_1) != (rd l1 x5_1)) = false := bne_eq_false_iff_eq.mpr c7
                clear c7
                have H' := Aside0.mk H
                clear H
                have p221 : 0 ≤ (x5_1 : Int) := of_decide_eq_true (by first | (with_reducible assumption) | assumption)
                have q221 : x5_1 < (l0.length : Int) := of_decide_eq_true (by first | (with_reducible assumption) | assumption)
                obtain ⟨ad221, e221, hx221_0⟩ := Kd.at_int HR0.out x5_1 p221 q221
                cases e221
                replace p221 := eq_true p221
                replace q221 := eq_true q221
                have p222 : 0 ≤ (x5_1 : Int) := of_decide_eq_true (by first | (with_reducible assumption) | assumption)
                have q222 : x5_1 < (l1.length : Int) := of_decide_eq_true (by first | (with_reducible assumption) | assumption)
                obtain ⟨ad222, e222, hx222_0⟩ := Kd.at_int HR1.out x5_1 p222 q222
                cases e222
                replace p222 := eq_true p222
                replace q222 := eq_true q222
                go_wp2
                repeat (go_quiet (fail); try go_wp2)
                go_roundg k1
                case measure => have := HK1.out; omega
                case rel => exact ⟨(wrap64 (x5_1 + 1)), (by first | rfl | (simp; done) | (simp [*]; done)), H', ⟨by have := HK1.out; omega⟩, by repeat (first | exact Drawn0.refl _ | apply Drawn0.step)⟩
              · rw [if_neg c7] at H
                have c7b0 : ((rd l0 x5_1) == (rd l1 x5_1)) = false := beq_eq_false_iff_ne.mpr c7
                have c7b1 : ((rd l0 x5_1) != (rd l1 x5_1)) = true := bne_iff_ne.mpr c7
                obtain rfl := Option.some.inj H
                have p221 : 0 ≤ (x5_1 : Int) := of_decide_eq_true (by first | (with_reducible assumption) | assumption)
                have q221 : x5_1 < (l0.length : Int) := of_decide_eq_true (by first | (with_reducible assumption) | assumption)
                obtain ⟨ad221, e221, hx221_0⟩ := Kd.at_int HR0.out x5_1 p221 q221
                cases e221
                replace p221 := eq_true p221
                replace q221 := eq_true q221
                have p222 : 0 ≤ (x5_1 : Int) := of_decide_eq_true (by first | (with_reducible assumption) | assumption)
                have q222 : x5_1 < (l1.length : Int) := of_decide_eq_true (by first | (with_reducible assumption) | assumption)
                obtain ⟨ad222, e222, hx222_0⟩ := Kd.at_int HR1.out x5_1 p222 q222
                cases e222
                replace p222 := eq_true p222
                replace q222 := eq_true q222
                go_wp2
                repeat (go_quiet (fail); try go_wp2)
                go_ret
                exact ⟨by first | rfl | (simp; done) | (simp [*]; done), by repeat (first | exact Drawn0.refl _ | apply Drawn0.step)⟩
            · rw [if_neg c6] at H
              exact absurd H (by simp)
          · rw [if_neg c5] at H
            exact absurd H (by simp)
        · rw [if_neg c4] at H
          have c4b0 : decide (x5_1 < (l0.length : Int)) = false := decide_eq_false c4
          clear c4
          obtain rfl := Option.some.inj H
          go_wp2
          repeat (go_quiet (fail); try go_wp2)
          go_ret
          exact ⟨by first | rfl | (simp; done) | (simp [*]; done), by repeat (first | exact Drawn0.refl _ | apply Drawn0.step)⟩
  · rw [if_neg c3] at H
    have c3b0 : ((l0.length : Int) == (l1.length : Int)) = false := beq_eq_false_iff_ne.mpr c3
    have c3b1 : ((l0.length : Int) != (l1.length : Int)) = true := bne_iff_ne.mpr c3
    have c3b2 : (l0.length == l1.length) = false := by first | simpa using c3 | (simp at c3 ⊢; omega)
    obtain rfl := Option.some.inj H
    go_enter Try.func19, Try.ntmps19
    go_wp2
    repeat (go_quiet (fail); try go_wp2)
    go_ret
    exact ⟨by first | rfl | (simp; done) | (simp [*]; done), by repeat (first | exact Drawn0.refl _ | apply Drawn0.step)⟩
end Go.Proofs.Ytkdahjnmldeklaa.PA
end
section
namespace Go.Proofs.Ytkdahjnmldeklaa.PA
open Go.RowKit Go.Proofs.YtkdahjnmldeklaaW.PrintWords Go.Proofs.YtkdahjnmldeklaaW.PrintLast Go.Proofs.YtkdahjnmldeklaaW.PrintMore
set_option linter.unusedVariables false
set_option linter.unusedSimpArgs false
namespace Same_
theorem wrap_in {i : Int} (h0 : -9223372036854775808 ≤ i) (h : i ≤ 9223372036854775807) : wrap64 i = i := by
  unfold wrap64
  omega
theorem drop_rd (xs : List Int) (n : Nat) (h : n < xs.length) : xs.drop n = rd xs n :: xs.drop (n + 1) := by
  rw [List.drop_eq_getElem_cons h]
  unfold rd
  rw [Int.toNat_natCast, List.getD_eq_getElem?_getD, List.getElem?_eq_getElem h]
  rfl
end Same_
end Go.Proofs.Ytkdahjnmldeklaa.PA
end
section
namespace Go.Proofs.Ytkdahjnmldeklaa.PA
open Go.RowKit Go.Proofs.YtkdahjnmldeklaaW.PrintWords Go.Proofs.YtkdahjnmldeklaaW.PrintLast Go.Proofs.YtkdahjnmldeklaaW.PrintMore
set_option linter.unusedVariables false
set_option linter.unusedSimpArgs false
theorem clone0 (A0 : Option Addr) (c0 : Nat) (l : List Int) (w : World) (hr : Kd.C (Kd.int .u8) w A0 l.length l) (hc : l.length ≤ c0) (hl : l.length < 140737488355328) :
    Calls Try.prog 45 #[.slice A0 l.length c0] w fun e w' => ∃ A c S, e = .returned (.slice A l.length c) ∧ Out w w' (fun _ => False) [Chunk.row (Kd.int .u8) 5 w.heap.size S (.slice A l.length c) l] := by
  refine (clone_bytes A0 c0 l w hr hc hl).mono ?_
  rintro e w' ⟨A, c, rfl, h, hb⟩
  exact ⟨A, c, _, rfl, Out.row h hb⟩
end Go.Proofs.Ytkdahjnmldeklaa.PA
end
section
namespace Go.Proofs.Ytkdahjnmldeklaa.PA
open Go.RowKit Go.Maps Go.Sort Go.Proofs.YtkdahjnmldeklaaW.PrintWords Go.Proofs.YtkdahjnmldeklaaW.PrintLast Go.Proofs.YtkdahjnmldeklaaW.PrintMore
set_option linter.unusedVariables false
set_option linter.unusedSimpArgs false
abbrev PI := Int × List Int
def litI (n : Int) : Lit := .int .i64 n
theorem litI_same (a b : Int) : (litI a).sameKey (litI b) = decide (a = b) := by simp [litI, Lit.sameKey]
structure XJ where
  key : Int
  b : List Int
  A : Option Addr
  c : Nat
  S : Nat → Prop
def XJ.p (x : XJ) : PI := (x.key, x.b)
def XJ.ent (x : XJ) : Lit × Value := (litI x.key, .slice x.A x.b.length x.c)
def getJ (k : Int) (is : List PI) : Option (List Int) := (is.find? fun x => decide (x.1 = k)).map (·.2)
def hasJ (k : Int) (is : List PI) : Bool := (getJ k is).isSome
def onceJ (is : List PI) : Prop := is.Pairwise fun x y => x.1 ≠ y.1
theorem getJ_iff {k : Int} {b : List Int} {is : List PI} (h : onceJ is) : getJ k is = some b ↔ (k, b) ∈ is := by
  unfold getJ
  constructor
  · intro e
    obtain ⟨x, hx, rfl⟩ := Option.map_eq_some_iff.1 e
    have h1 := List.find?_some hx
    have h2 := List.mem_of_find?_eq_some hx
    simp only [decide_eq_true_eq] at h1
    subst h1
    exact h2
  · intro hm
    cases hf : is.find? fun x => decide (x.1 = k) with
    | none =>
      have := List.find?_eq_none.1 hf (k, b) hm
      simp at this
    | some x =>
      have h1 := List.find?_some hf
      have h2 := List.mem_of_find?_eq_some hf
      simp only [decide_eq_true_eq] at h1
      have : x = (k, b) := by
        by_cases e : x = (k, b)
        · exact e
        · obtain ⟨i, hi, rfl⟩ := List.getElem_of_mem h2
          obtain ⟨j, hj, ej⟩ := List.getElem_of_mem hm
          rcases Nat.lt_trichotomy i j with hij | hij | hij
          · have := List.pairwise_iff_getElem.1 h i j hi hj hij
            rw [ej] at this
            exact absurd h1 this
          · subst hij
            exact ej
          · have := List.pairwise_iff_getElem.1 h j i hj hi hij
            rw [ej] at this
            exact absurd h1.symm this
      rw [this]
      rfl
theorem onceJ_perm {is js : List PI} (h : onceJ is) (hp : is.Perm js) : onceJ js := (hp.pairwise_iff (fun {a b} hab => fun e => hab e.symm)).1 h
theorem getJ_perm {k : Int} {is js : List PI} (h : onceJ is) (hp : is.Perm js) : getJ k is = getJ k js := by
  refine Option.ext fun b => ?_
  rw [getJ_iff h, getJ_iff (onceJ_perm h hp)]
  exact hp.mem_iff
theorem hasJ_iff {k : Int} {is : List PI} : hasJ k is = true ↔ ∃ x ∈ is, x.1 = k := by
  unfold hasJ getJ
  rw [Option.isSome_map, List.find?_isSome]
  simp
theorem hasJ_false {k : Int} {is : List PI} : hasJ k is = false ↔ ∀ x ∈ is, x.1 ≠ k := by
  rw [← Bool.not_eq_true, hasJ_iff]
  constructor
  · intro h x hx e; exact h ⟨x, hx, e⟩
  · rintro h ⟨x, hx, e⟩; exact h x hx e
def entryP (p : List Int) : Option (Int × Nat) := match gnum p with
  | none => none
  | some (n, k) => if 536870912 < (p.length : Int) - k ∨ 1099511627776 < n then none else some (n, k)
theorem entry_none1 {p : List Int} (h : gnum p = none) : entryP p = none := by unfold entryP; rw [h]
theorem entry_none2 {p : List Int} {n : Int} {k : Nat} (h : gnum p = some (n, k)) (h2 : 536870912 < (p.length : Int) - k ∨ 1099511627776 < n) : entryP p = none := by unfold entryP; rw [h]; exact if_pos h2
theorem entry_some {p : List Int} {n : Int} {k : Nat} (h : gnum p = some (n, k)) (h1 : (p.length : Int) - k ≤ 536870912) (h2 : n ≤ 1099511627776) : entryP p = some (n, k) := by unfold entryP; rw [h]; exact if_neg (by omega)
def recI (x : PI) : List Int := Pure.recOf (encN x.1 ++ x.2)
theorem encN_byte (n : Int) : ByteL (encN n) := by
  have h : ∀ f u, ByteL (putN f u) := by
    intro f
    induction f with
    | zero => intro u x hx; simp [putN] at hx
    | succ f ih =>
      intro u x hx
      unfold putN at hx
      split at hx
      · rcases List.mem_cons.1 hx with rfl | hx
        · omega
        · exact ih _ x hx
      · simp only [List.mem_singleton] at hx
        omega
  exact h _ _
theorem byteL_app {l m : List Int} (h : ByteL l) (k : ByteL m) : ByteL (l ++ m) := fun x hx => (List.mem_append.1 hx).elim (h x) (k x)
theorem encN_len (n : Int) : (encN n).length ≤ 9 := enc_len 9 _
theorem recI_len (x : PI) : (recI x).length = (encN x.1).length + x.2.length + 8 := by unfold recI; rw [Pure.recOf_length, List.length_append]
def putJ (nm : ByteArray) (k : Int) (b : List Int) (is : List PI) (size : Int) (d : PD) : (PD × Int) × (List PI × Int) :=
  if k < 0 ∨ 1099511627776 < k then ((d, 1), (is, size)) else if 536870912 < (b.length : Int) then ((d, 2), (is, size)) else if hasJ k is = true then ((d, 5), (is, size))
  else (appendD nm (recI (k, b)) d, if (appendD nm (recI (k, b)) d).2 = 0 then (is ++ [(k, b)], size + (recI (k, b)).length) else (is, size))
section
variable {nm : ByteArray} {k : Int} {b : List Int} {is : List PI} {size : Int} {d : PD}
theorem put_arg (h : k < 0 ∨ 1099511627776 < k) : putJ nm k b is size d = ((d, 1), (is, size)) := if_pos h
theorem put_long (h : 0 ≤ k ∧ k ≤ 1099511627776) (h2 : 536870912 < (b.length : Int)) : putJ nm k b is size d = ((d, 2), (is, size)) := by unfold putJ; rw [if_neg (by omega), if_pos h2]
theorem put_twice (h : 0 ≤ k ∧ k ≤ 1099511627776) (h2 : (b.length : Int) ≤ 536870912) (h3 : hasJ k is = true) : putJ nm k b is size d = ((d, 5), (is, size)) := by unfold putJ; rw [if_neg (by omega), if_neg (by omega), if_pos h3]
theorem put_fail (h : 0 ≤ k ∧ k ≤ 1099511627776) (h2 : (b.length : Int) ≤ 536870912) (h3 : hasJ k is = false) (h4 : (appendD nm (recI (k, b)) d).2 ≠ 0) : putJ nm k b is size d = (appendD nm (recI (k, b)) d, (is, size)) := by
  unfold putJ; rw [if_neg (by omega), if_neg (by omega), if_neg (by rw [h3]; decide), if_neg h4]
theorem put_ok (h : 0 ≤ k ∧ k ≤ 1099511627776) (h2 : (b.length : Int) ≤ 536870912) (h3 : hasJ k is = false) (h4 : (appendD nm (recI (k, b)) d).2 = 0) : putJ nm k b is size d = (appendD nm (recI (k, b)) d, (is ++ [(k, b)], size + (recI (k, b)).length)) := by
  unfold putJ; rw [if_neg (by omega), if_neg (by omega), if_neg (by rw [h3]; decide), if_pos h4]
end
def scanS : Nat → List Int → List PI → Int → List PI × Int
  | 0, _, is, sz => (is, sz)
  | f + 1, b, is, sz => if (Pure.splitOf b).2.2 = true then (match entryP (Pure.splitOf b).1 with
      | none => (is, sz)
      | some (n, k) => if hasJ n is = true then (is, sz) else scanS f (b.drop (Pure.splitOf b).2.1.toNat) (is ++ [(n, (Pure.splitOf b).1.drop k)]) (sz + (Pure.splitOf b).2.1)) else (is, sz)
def scanJ (b : List Int) : List PI × Int := scanS (b.length + 1) b [] 0
section
variable {f : Nat} {b : List Int} {is : List PI} {sz n : Int} {k : Nat}
theorem scan_stop1 (h : (Pure.splitOf b).2.2 = false) : scanS f b is sz = (is, sz) := by
  cases f with
  | zero => rfl
  | succ f => unfold scanS; rw [if_neg (by rw [h]; decide)]
theorem scan_stop2 (h : (Pure.splitOf b).2.2 = true) (h2 : entryP (Pure.splitOf b).1 = none) : scanS f b is sz = (is, sz) := by
  cases f with
  | zero => rfl
  | succ f => unfold scanS; rw [if_pos h, h2]
theorem scan_stop3 (h : (Pure.splitOf b).2.2 = true) (h2 : entryP (Pure.splitOf b).1 = some (n, k)) (h3 : hasJ n is = true) : scanS f b is sz = (is, sz) := by
  cases f with
  | zero => rfl
  | succ f => unfold scanS; rw [if_pos h, h2]; exact if_pos h3
theorem scan_go (hf : 0 < f) (h : (Pure.splitOf b).2.2 = true) (h2 : entryP (Pure.splitOf b).1 = some (n, k)) (h3 : hasJ n is = false) : scanS f b is sz = scanS (f - 1) (b.drop (Pure.splitOf b).2.1.toNat) (is ++ [(n, (Pure.splitOf b).1.drop k)]) (sz + (Pure.splitOf b).2.1) := by
  cases f with
  | zero => omega
  | succ f =>
    conv => lhs; unfold scanS
    rw [if_pos h, h2]
    exact if_neg (by rw [h3]; decide)
theorem split_in (h : (Pure.splitOf b).2.2 = true) : (Pure.splitOf b).2.1 = (Pure.splitOf b).1.length + 8 ∧ (Pure.splitOf b).1.length + 8 ≤ b.length := by
  obtain ⟨h1, h2, _, h4⟩ := Pure.split_bool _ h
  rw [h4]
  simp only [List.length_take, List.length_drop]
  omega
theorem split_byte (hb : ByteL b) : ByteL (Pure.splitOf b).1 := by
  unfold Pure.splitOf
  split
  · intro x hx; simp at hx
  · split
    · exact fun x hx => hb x (List.mem_of_mem_drop (List.mem_of_mem_take hx))
    · intro x hx; simp at hx
theorem split_len (b : List Int) : (Pure.splitOf b).1.length ≤ b.length := by
  unfold Pure.splitOf
  split
  · simp
  · split
    · simp only [List.length_take, List.length_drop]; omega
    · simp
theorem entry_in {p : List Int} (h : entryP p = some (n, k)) : 0 ≤ n ∧ n ≤ 1099511627776 ∧ k ≤ p.length ∧ gnum p = some (n, k) ∧ (p.length : Int) - k ≤ 536870912 := by
  unfold entryP at h
  split at h
  · cases h
  · rename_i n' k' hg
    have := gnum_some hg
    split at h
    · cases h
    · injection h with h
      injection h with h1 h2
      subst h1 h2
      exact ⟨by omega, by omega, by omega, hg, by omega⟩
theorem wf_i64 (h : -9223372036854775808 ≤ n ∧ n ≤ 9223372036854775807) : (Lit.int .i64 n).wf = true := by simp [Lit.wf, IntKind.signed, IntKind.min, IntKind.max, IntKind.bits]; omega
theorem read_len {d : PD} {nm : ByteArray} (hw : wfD d) : ((readD nm d).1.length : Int) ≤ d.used := by
  have h0 := hw.used
  cases hd : d.down
  · cases hg : getF nm d.fs with
    | none => rw [read_none hd hg]; show ((0 : Nat) : Int) ≤ _; omega
    | some f => rw [read_some hd hg]; exact wf_len hw (getF_mem hg).1
  · rw [read_down hd]; show ((0 : Nat) : Int) ≤ _; omega
end
def preJ (nm : ByteArray) (d : PD) : PD × Int := if (readD nm d).2 = 4 then createD nm d else (d, (readD nm d).2)
def openJ (nm : ByteArray) (d : PD) : (PD × Int) × (List PI × Int) :=
  if (preJ nm d).2 ≠ 0 then (preJ nm d, ([], 0)) else
    let s := scanJ (readD nm d).1
    let c := if s.2 < ((readD nm d).1.length : Int) then cutD nm s.2 (preJ nm d).1 else ((preJ nm d).1, 0)
    if c.2 ≠ 0 then (c, s) else (syncD nm c.1, s)
section
variable {nm : ByteArray} {d d1 : PD} {e8 sz : Int} {is : List PI}
theorem open1 (h : preJ nm d = (d1, e8)) (h2 : e8 ≠ 0) : openJ nm d = ((d1, e8), ([], 0)) := by unfold openJ; rw [h]; exact if_pos h2
theorem open2 (h : preJ nm d = (d1, e8)) (h2 : e8 = 0) (h3 : scanJ (readD nm d).1 = (is, sz)) (h4 : sz < ((readD nm d).1.length : Int)) (h5 : (cutD nm sz d1).2 ≠ 0) : openJ nm d = (cutD nm sz d1, (is, sz)) := by
  unfold openJ
  rw [h, h3]
  simp only
  rw [if_neg (by simpa using h2), if_pos h4, if_pos h5]
theorem open3 (h : preJ nm d = (d1, e8)) (h2 : e8 = 0) (h3 : scanJ (readD nm d).1 = (is, sz)) (h4 : sz < ((readD nm d).1.length : Int)) (h5 : (cutD nm sz d1).2 = 0) : openJ nm d = (syncD nm (cutD nm sz d1).1, (is, sz)) := by
  unfold openJ
  rw [h, h3]
  simp only
  rw [if_neg (by simpa using h2), if_pos h4, if_neg (by simpa using h5)]
theorem open4 (h : preJ nm d = (d1, e8)) (h2 : e8 = 0) (h3 : scanJ (readD nm d).1 = (is, sz)) (h4 : ¬ sz < ((readD nm d).1.length : Int)) : openJ nm d = (syncD nm d1, (is, sz)) := by
  unfold openJ
  rw [h, h3]
  simp only
  rw [if_neg (by simpa using h2), if_neg h4, if_neg (by simp)]
end
def insJ (x : XJ) : List XJ → List XJ
  | [] => [x]
  | y :: r => if (litI x.key).before (litI y.key) then x :: y :: r else y :: insJ x r
theorem insJ_ent (x : XJ) : ∀ l, (insJ x l).map XJ.ent = linsert x.ent (l.map XJ.ent)
  | [] => rfl
  | y :: r => by
    unfold insJ
    rw [List.map_cons, linsert]
    show _ = if (litI x.key).before (litI y.key) then _ else _
    split
    · rfl
    · rw [List.map_cons, insJ_ent x r]
theorem insJ_perm (x : XJ) : ∀ l, (insJ x l).Perm (x :: l)
  | [] => List.Perm.refl _
  | y :: r => by
    unfold insJ
    split
    · exact List.Perm.refl _
    · exact ((insJ_perm x r).cons y).trans (List.Perm.swap x y r)
theorem lput_new {x : XJ} {xs : List XJ} (h : ∀ y ∈ xs, y.key ≠ x.key) : lput (litI x.key) (.slice x.A x.b.length x.c) (xs.map XJ.ent) = (insJ x xs).map XJ.ent := by
  have e : ldel (litI x.key) (xs.map XJ.ent) = xs.map XJ.ent := by
    unfold ldel
    refine List.filter_eq_self.2 fun p hp => ?_
    obtain ⟨y, hy, rfl⟩ := List.mem_map.1 hp
    show (!(litI y.key).sameKey (litI x.key)) = true
    rw [litI_same]
    simp [h y hy]
  unfold lput
  rw [e, insJ_ent]
  rfl
theorem once_of_rising2 {xs : List XJ} (h : risingL (xs.map XJ.ent)) : onceJ (xs.map XJ.p) := by
  have := List.pairwise_map.1 h
  refine List.pairwise_map.2 (this.imp fun {x y} hb e => ?_)
  have hb' : (litI x.key).before (litI y.key) = true := hb
  have e' : x.key = y.key := e
  rw [e', Go.WideShapes.before_irrefl] at hb'
  cases hb'
theorem lookJ (k : Int) (xs : List XJ) : (lfind (litI k) (xs.map XJ.ent) = none ∧ getJ k (xs.map XJ.p) = none ∧ ∀ x ∈ xs, x.key ≠ k) ∨
    ∃ x ∈ xs, x.key = k ∧ lfind (litI k) (xs.map XJ.ent) = some (.slice x.A x.b.length x.c) ∧ getJ k (xs.map XJ.p) = some x.b := by
  have e1 : lfind (litI k) (xs.map XJ.ent) = (xs.find? fun x => decide (x.key = k)).map fun x => .slice x.A x.b.length x.c := by
    unfold lfind
    rw [List.find?_map, Option.map_map]
    congr 1
    congr 1
    funext x
    exact litI_same _ _
  have e2 : getJ k (xs.map XJ.p) = (xs.find? fun x => decide (x.key = k)).map XJ.b := by
    unfold getJ
    rw [List.find?_map, Option.map_map]
    rfl
  rw [e1, e2]
  cases hf : xs.find? fun x => decide (x.key = k) with
  | none =>
    refine .inl ⟨rfl, rfl, fun x hx => ?_⟩
    have := List.find?_eq_none.1 hf x hx
    simpa using this
  | some x =>
    have h1 := List.find?_some hf
    exact .inr ⟨x, List.mem_of_find?_eq_some hf, by simpa using h1, rfl, rfl⟩
def Chunk.jrow (base : Nat) (x : XJ) : Chunk := Chunk.row (Kd.int .u8) 5 base x.S (.slice x.A x.b.length x.c) x.b
def Chunk.jrows (base : Nat) (xs : List XJ) : Chunk := Chunk.all (xs.map (Chunk.jrow base))
def jcells (gd : Nat) (nm : ByteArray) (gm : Nat) (size : Int) : List Value := [.pointer (some ⟨gd, 0, none⟩), .string nm, .map (some gm), .int .i64 size]
def jourL (base gd gj gm : Nat) (nm : ByteArray) (size : Int) (xs : List XJ) : List Chunk := [Bk gj (jcells gd nm gm size) 100, Chunk.lmap Try.prog 2 gm (xs.map XJ.ent), Chunk.jrows base xs]
def Chunk.jour (base gd gj : Nat) (nm : ByteArray) (S : Nat → Prop) (is : List PI) (size : Int) : Chunk := ⟨S, fun w => ∃ gm xs, (xs.map XJ.p).Perm is ∧ (Chunk.all (jourL base gd gj gm nm size xs)).P w ∧ ∀ k, (Chunk.all (jourL base gd gj gm nm size xs)).S k → S k, fun h hm => by
  obtain ⟨gm, xs, h1, h2, h3⟩ := h
  exact ⟨gm, xs, h1, (Chunk.all _).move h2 (fun k hk => hm k (h3 k hk)), h3⟩⟩
theorem intKey : Keyed Try.prog 2 := int_keyed Try.underlying2
section
variable {w0 w : World} {base gd gj gm : Nat} {nm : ByteArray} {S : Nat → Prop} {is : List PI} {size : Int} {L A B : List Chunk} {R Dk : Chunk} {xs : List XJ} {x : XJ}
theorem Own.jour_open (h : Own w0 w (Chunk.jour base gd gj nm S is size :: L)) : ∃ gm xs, (xs.map XJ.p).Perm is ∧ onceJ (xs.map XJ.p) ∧ Own w0 w (jourL base gd gj gm nm size xs ++ L) := by
  obtain ⟨gm, xs, h1, h2, h3⟩ := h.get 0 rfl
  have h4 : Own w0 w (Chunk.all (jourL base gd gj gm nm size xs) :: L) := h.calls (cs := []) 0 rfl (Out.one (Out.refl w _) h2 fun k hk => ⟨.inl (h3 k hk), (h.lt 0 rfl (h3 k hk)).2⟩)
  have h5 := h4.unbundle
  exact ⟨gm, xs, h1, once_of_rising2 (lmap_rising intKey (h5.get 1 rfl)).1, h5⟩
theorem Own.jour_close (h : Own w0 w (jourL base gd gj gm nm size xs ++ L)) (hx : (xs.map XJ.p).Perm is) : ∃ S, Own w0 w (Chunk.jour base gd gj nm S is size :: L) := by
  have h1 := h.bundle
  exact ⟨(Chunk.all (jourL base gd gj gm nm size xs)).S, h1.calls (cs := []) 0 rfl (Out.one (Out.refl w _) (c := Chunk.jour base gd gj nm (Chunk.all (jourL base gd gj gm nm size xs)).S is size) ⟨gm, xs, hx, h1.get 0 rfl, fun k hk => hk⟩ fun k hk => ⟨.inl hk, (h1.lt 0 rfl hk).2⟩)⟩
theorem jour_open2 (h : Own w0 w [R, Dk, Chunk.jour base gd gj nm S is size]) : ∃ gm xs, (xs.map XJ.p).Perm is ∧ onceJ (xs.map XJ.p) ∧ Own w0 w (R :: Dk :: jourL base gd gj gm nm size xs) := by
  obtain ⟨gm, xs, h1, h2, h3⟩ := Own.jour_open (L := [R, Dk]) (h.sel [2, 0, 1] (by decide))
  exact ⟨gm, xs, h1, h2, h3.sel [3, 4, 0, 1, 2] (by decide)⟩
theorem jour_close2 (hx : (xs.map XJ.p).Perm is) (h : Own w0 w (R :: Dk :: jourL base gd gj gm nm size xs)) : ∃ S, Own w0 w [R, Dk, Chunk.jour base gd gj nm S is size] := by
  obtain ⟨S, h1⟩ := Own.jour_close (L := [R, Dk]) (xs := xs) (gm := gm) (gd := gd) (gj := gj) (base := base) (nm := nm) (size := size) (h.sel [2, 3, 4, 0, 1] (by decide)) hx
  exact ⟨S, h1.sel [1, 2, 0] (by decide)⟩
theorem Own.jrows_nil (h : Own w0 w L) (base : Nat) : Own w0 w (Chunk.jrows base [] :: L) :=
  h.fresh (cs := [_]) (Out.one (Out.refl w _) (c := Chunk.jrows base []) ⟨fun c hc => by simp at hc, by simp⟩ (fun k hk => by obtain ⟨c, hc, _⟩ := hk; simp at hc))
theorem Own.jrow_in (h : Own w0 w (Chunk.jrow base x :: Chunk.jrows base xs :: L)) : Own w0 w (Chunk.jrows base (insJ x xs) :: L) := by
  have h1 : Own w0 w (Chunk.jrows base xs :: (Chunk.jrow base x :: L)) := h.perm (List.Perm.swap _ _ _)
  have h2 : Own w0 w (xs.map (Chunk.jrow base) ++ (Chunk.jrow base x :: L)) := h1.unbundle
  have h3 : Own w0 w ((x :: xs).map (Chunk.jrow base) ++ L) := h2.perm (by rw [List.map_cons]; exact List.perm_middle)
  exact Own.allPerm h3.bundle ((insJ_perm x xs).symm.map _)
theorem jour_blk (h : (Chunk.jour base gd gj nm S is size).P w) : ∃ (gm : Nat) (xs : List XJ), (xs.map XJ.p).Perm is ∧ onceJ (xs.map XJ.p) ∧ w.heap[gj]? = some (.cells (jcells gd nm gm size).toArray 100 (0, 0)) ∧ (Chunk.lmap Try.prog 2 gm (xs.map XJ.ent)).P w ∧ ∀ x ∈ xs, (Kd.int .u8).C w x.A x.b.length x.b ∧ x.b.length ≤ x.c := by
  obtain ⟨gm, xs, h1, h2, h3⟩ := h
  have hl : (Chunk.lmap Try.prog 2 gm (xs.map XJ.ent)).P w := h2.1 _ (by simp [jourL])
  refine ⟨gm, xs, h1, once_of_rising2 (lmap_rising intKey hl).1, h2.1 (Bk gj _ _) (by simp [jourL]), hl, fun x hx => ?_⟩
  have hf : (Chunk.jrows base xs).P w := h2.1 _ (by simp [jourL])
  have hr : (Kd.int .u8).R 5 w base x.S (.slice x.A x.b.length x.c) x.b := hf.1 (Chunk.jrow base x) (List.mem_map_of_mem hx)
  exact ⟨(Kd.R_reads' hr).2.2, row_cap hr⟩
end
theorem num_new (n : Int) (w : World) : Calls Try.prog 61 #[.slice none 0 0, .int .i64 n] w fun e w' => ∃ A' c' S, e = .returned (.slice A' (encN n).length c') ∧ Out w w' (fun _ => False) [Chunk.row (Kd.int .u8) 5 w.heap.size S (.slice A' (encN n).length c') (encN n)] :=
  num_own none 0 [] n w (Kd.C_nil _ _) (Nat.le_refl _) (by decide)
theorem recI_own (k : Int) (b : List Int) (A : Option Addr) (c : Nat) (w : World) (hr : Kd.C (Kd.int .u8) w A (encN k ++ b).length (encN k ++ b)) (hc : (encN k ++ b).length ≤ c) (hb : ByteL b) (h : b.length ≤ 900000) :
    Calls Try.prog 60 #[.slice A (encN k ++ b).length c] w fun e w' => ∃ A' c' S, e = .returned (.slice A' (recI (k, b)).length c') ∧ Out w w' (fun _ => False) [Chunk.row (Kd.int .u8) 5 w.heap.size S (.slice A' (recI (k, b)).length c') (recI (k, b))] :=
  record_own A c _ w hr hc (byteL_app (encN_byte k) hb) (by have := encN_len k; rw [List.length_append]; omega)
theorem none_key {k : Int} {xs : List XJ} {is : List PI} (hp : (xs.map XJ.p).Perm is) (h : hasJ k is = false) : ∀ y ∈ xs, y.key ≠ k := fun y hy =>
  hasJ_false.1 h y.p (hp.mem_iff.1 (List.mem_map_of_mem hy))
theorem ins_items {x : XJ} {xs : List XJ} {is : List PI} (hp : (xs.map XJ.p).Perm is) : ((insJ x xs).map XJ.p).Perm (is ++ [x.p]) :=
  (((insJ_perm x xs).map XJ.p).trans ((hp.cons x.p))).trans (List.perm_append_singleton x.p is).symm
theorem keysJ_at (mb : Option Nat) (W : World) : Calls Try.prog 63 #[.map mb] W fun e w' => e = .returned (.func (.func 78) #[] #[.pointer (some ⟨W.heap.size, 0, none⟩)]) ∧ w' = W.alloc (.cells #[.map mb] 98) :=
  (callsIn_wide (n := 5)).1 (Try.keysI_at mb W)
theorem keys_sorted {xs : List XJ} (h : risingL (xs.map XJ.ent)) : ((intKeys (lmap (xs.map XJ.ent))).mergeSort (fun x y => decide (x ≤ y))).map encZ = encs (Value.int .i64) (xs.map fun x => x.key) := by
  have e1 : intKeys (lmap (xs.map XJ.ent)) = xs.map fun x => x.key := by
    show ((xs.map XJ.ent).map held1).map (fun p => Go.intOf p.1) = _
    rw [List.map_map, List.map_map]
    rfl
  rw [e1]
  have hp : (xs.map fun x => x.key).Pairwise (fun x y => decide (x ≤ y) = true) := by
    refine List.pairwise_map.2 ((List.pairwise_map.1 h).imp fun {x y} hb => ?_)
    have hb' : (litI x.key).before (litI y.key) = true := hb
    simp only [litI, Lit.before, decide_eq_true_eq] at hb'
    exact decide_eq_true (by omega)
  rw [List.mergeSort_of_pairwise hp]
  rfl
theorem keys_rise {xs : List XJ} (h : risingL (xs.map XJ.ent)) : (xs.map fun x => x.key).Pairwise (fun x y => x < y) :=
  List.pairwise_map.2 ((List.pairwise_map.1 h).imp fun {x y} hb => by
    have hb' : (litI x.key).before (litI y.key) = true := hb
    simpa only [litI, Lit.before, decide_eq_true_eq] using hb')
theorem mergeI_perm {l m : List Int} (h : l.Perm m) : l.mergeSort (fun x y => decide (x ≤ y)) = m.mergeSort (fun x y => decide (x ≤ y)) := by
  have ht : ∀ a b c : Int, decide (a ≤ b) = true → decide (b ≤ c) = true → decide (a ≤ c) = true := fun a b c h1 h2 => by simp only [decide_eq_true_eq] at *; omega
  have hto : ∀ a b : Int, (decide (a ≤ b) || decide (b ≤ a)) = true := fun a b => by simp only [Bool.or_eq_true, decide_eq_true_eq]; omega
  refine List.Perm.eq_of_pairwise (le := fun a b => decide (a ≤ b) = true) (fun a b _ _ h1 h2 => by simp only [decide_eq_true_eq] at *; omega) (List.pairwise_mergeSort ht hto l) (List.pairwise_mergeSort ht hto m) ?_
  exact ((List.mergeSort_perm l _).trans h).trans (List.mergeSort_perm m _).symm
theorem sortedJ_at (b : Nat) (xs : List XJ) (w : World) (hm : (Chunk.lmap Try.prog 2 b (xs.map XJ.ent)).P w) (hl : xs.length ≤ 1000000) :
    Calls Try.prog 62 #[.func (.func 78) #[] #[.pointer (some ⟨w.heap.size, 0, none⟩)]] (w.alloc (.cells #[.map (some b)] 98)) fun e w' => ∃ A c S, e = .returned (.slice A (xs.map fun x => x.key).length c) ∧
      Out (w.alloc (.cells #[.map (some b)] 98)) w' (fun _ => False) [Chunk.row (Kd.int .i64) 2 (w.alloc (.cells #[.map (some b)] 98)).heap.size S (.slice A (xs.map fun x => x.key).length c) (xs.map fun x => x.key)] := by
  have hr := (lmap_rising intKey hm).1
  have hm' : w.ownsMap Try.prog 2 anyR b (xs.map XJ.ent).length (lmap (xs.map XJ.ent)) := hm
  refine ((callsIn_wide (n := 5)).1 (Try.sortedI_at b _ (lmap (xs.map XJ.ent)) _ w hm' (by rw [lmap_size, List.length_map]; simp only [maxLen]; omega) (by rw [lmap_size, List.length_map]; omega))).mono fun e w' h => ?_
  obtain ⟨v, ss, rfl, hS, hrow, hnil, hb⟩ := h
  have hlen : (xs.map fun x => x.key).length = ss.length := by
    rw [hS.length_eq]
    show _ = (((xs.map XJ.ent).map held1).map (fun p => Go.intOf p.1)).length
    simp only [List.length_map]
  rw [mergeI_perm hS, keys_sorted hr, ← hlen] at hrow
  obtain ⟨A, c, rfl⟩ := own_slice hrow
  exact ⟨A, c, _, rfl, Out.row (d := Kd.int .i64) (ok := fun _ => True) (Kd.R_of_own (enc := Value.int .i64) (h1 := fun _ => rfl) hrow (fun _ _ => trivial)) hb⟩
end Go.Proofs.Ytkdahjnmldeklaa.PA
end
section
namespace Go.Proofs.Ytkdahjnmldeklaa.PA
open Go.RowKit Go.Proofs.YtkdahjnmldeklaaW.PrintWords Go.Proofs.YtkdahjnmldeklaaW.PrintLast Go.Proofs.YtkdahjnmldeklaaW.PrintMore
set_option linter.unusedVariables false
set_option linter.unusedSimpArgs false
namespace GJour0_
theorem gwagg2 : ∀ w, (isAgg 2).run Try.prog w = .ok false w := fun _ => by kernel_rfl
theorem gwagg3 : ∀ w, (isAgg 3).run Try.prog w = .ok false w := fun _ => by kernel_rfl
theorem gwsiz2 : ∀ w, (sizeOf 2).run Try.prog w = .ok 1 w := fun _ => by kernel_rfl
theorem gwsiz3 : ∀ w, (sizeOf 3).run Try.prog w = .ok 1 w := fun _ => by kernel_rfl
theorem gwsiz5 : ∀ w, (sizeOf 5).run Try.prog w = .ok 1 w := fun _ => by kernel_rfl
theorem gwzer2 : ∀ w, (zeroValue 2).run Try.prog w = .ok (.int .i64 0) w := fun _ => by kernel_rfl
theorem gwzer3 : ∀ w, (zeroValue 3).run Try.prog w = .ok (.int .i64 0) w := fun _ => by kernel_rfl
set_option maxHeartbeats 4000000 in
set_option maxRecDepth 100000 in
theorem entry1_calls (w0 w : World) (R : Chunk) (g : Nat) (A : Option Addr) (c : Nat) (xs : List Int) (hx : ∀ w_, Own w0 w_ [R] → Kd.C (Kd.int .u8) w_ A xs.length xs) (hc : xs.length ≤ c) (hb : ByteL xs) (p q : Nat) (HO : Own w0 w [R, Bk g [.slice A xs.length c] 126, Bk p [.int .i64 0] 2, Bk q [.int .i64 (-1)] 3]) :
    Calls Try.prog 71 #[.pointer (some ⟨g, 0, none⟩), .pointer (some ⟨p, 0, none⟩), .pointer (some ⟨q, 0, none⟩)] w fun e w' => (∃ n k A' c', gnum xs = some (n, k) ∧ e = .returned (.tuple #[]) ∧ Own w0 w' [R, rblk g A' (xs.drop k).length c', Chunk.blk p (.cells #[.int .i64 n] 2 (0, 0)), Chunk.blk q (.cells #[.int .i64 ((xs.drop k).length : Int)] 3 (0, 0))]) ∨ (gnum xs = none ∧ e = .panicked badE ∧ Own w0 w' [R, Chunk.blk p (.cells #[.int .i64 0] 2 (0, 0)), Chunk.blk q (.cells #[.int .i64 (-1)] 3 (0, 0))]) := by
 refine gw_startO (N := 8) (vs := [.pointer (some ⟨g, 0, none⟩), .pointer (some ⟨p, 0, none⟩), .pointer (some ⟨q, 0, none⟩)]) Try.func71 rfl rfl (by simp) fun a HF => ?_
 refine gw_seq fun K1 hK1 => ?_
 refine wp_region_lit ?_
 refine V HF (op_move rfl (HF.ev rfl)) ?_
 intro _ H3; clear HF
 have O19 : Own w0 _ [(Chunk.all [R, Bk p [J 0] 2, Bk q [J (-1)] 3]), Bk g [.slice A xs.length c] 126] := Own.bundle (A := [R, Bk p [J 0] 2, Bk q [J (-1)] 3]) (L := [Bk g [.slice A xs.length c] 126]) (HO.sel [0, 2, 3, 1] (by decide))
 refine gw_callP H3 (want_none rfl) rfl (by decide) (op_callL Try.func72 (by kernel_rfl) rfl rfl (ar_cons (H3.ev rfl) ar_nil)) (GRead_.num_calls w0 _ (Chunk.all [R, Bk p [J 0] 2, Bk q [J (-1)] 3]) g A c xs (fun w_ h_ => (hx _ ((Own.unbundle (A := [R, Bk p [J 0] 2, Bk q [J (-1)] 3]) (L := []) h_).sel [0] (by decide)))) hc (by first | exact hb | exact hb.drop _ | exact (hb.drop _).drop _ | assumption) O19) ?_
 rintro e13 w14 (⟨n4, k5, A6, c7, hg8, rfl, hC9, hc10, hb15⟩ | ⟨hg8, rfl, hb15⟩)
 rotate_left
 ·
  refine .inr ⟨_, rfl, ?_⟩
  have O20 : Own w0 w14 [R, Bk p [J 0] 2, Bk q [J (-1)] 3] := Own.unbundle (A := [R, Bk p [J 0] 2, Bk q [J (-1)] 3]) (L := []) hb15
  refine gw_thp ?_
  refine gw_pan H3 ?_
  exact .inr ⟨hg8, rfl, O20.sel [0, 1, 2] (by decide)⟩
 refine .inl ⟨_, rfl, fun _ H17 => ?_⟩
 have O18 : Own w0 w14 [R, Bk p [J 0] 2, Bk q [J (-1)] 3, Bk g [.slice A6 ((xs.drop k5).length) c7] 126] := Own.unbundle (A := [R, Bk p [J 0] 2, Bk q [J (-1)] 3]) (L := [Bk g [.slice A6 ((xs.drop k5).length) c7] 126]) (hb15.sel [0, 1] (by decide))
 clear O19
 clear H3 HO hb15
 have O22 : Own w0 w14 [R, Bk p [J 0] 2, Bk q [J (-1)] 3, Bk g [.slice A6 ((xs.drop k5).length) c7] 126] := O18
 clear O18
 have hgs12 := gnum_some hg8
 refine gw_set 1 H17 O22 rfl (want_none rfl) rfl (op_store1 gwsiz2 rfl (H17.ev rfl) (H17.ev rfl) rfl (blk_at (O22.get 1 rfl) rfl) (blkf (O22.get 1 rfl))) ?_
 intro _ w25 H24 O26; clear H17 O22
 have O27 : Own w0 w25 [R, Bk p [J n4] 2, Bk q [J (-1)] 3, Bk g [.slice A6 ((xs.drop k5).length) c7] 126] := O26
 clear O26
 refine wpList_nil ?_
 refine gw_nx (hK1 _ _ ?_)
 refine wp_region_lit ?_
 refine V H24 (op_move rfl (H24.ev rfl)) ?_
 intro _ H29; clear H24
 refine gw_call H29 (want_none rfl) rfl (by decide) (op_callL Try.func73 (by kernel_rfl) rfl rfl (ar_cons (H29.ev rfl) ar_nil)) (GRead_.left_calls g A6 ((xs.drop k5).length) c7 _ (O27.get 3 rfl)) ?_
 rintro e30 w31 ⟨rfl, hb32⟩
 refine ⟨_, rfl, fun _ H34 => ?_⟩
 have O35 := O27.after hb32
 clear H29 O27 hb32
 refine gw_set 2 H34 O35 rfl (want_none rfl) rfl (op_store1 gwsiz3 rfl (H34.ev rfl) (H34.ev rfl) rfl (blk_at (O35.get 2 rfl) rfl) (blkf (O35.get 2 rfl))) ?_
 intro _ w39 H38 O40; clear H34 O35
 have O41 : Own w0 w39 [R, Bk p [J n4] 2, Bk q [J (((xs.drop k5).length) : Int)] 3, Bk g [.slice A6 ((xs.drop k5).length) c7] 126] := O40
 clear O40
 refine wpList_nil ?_
 refine gw_end0 H38 rfl ?_
 exact .inl ⟨n4, k5, A6, c7, hg8, rfl, O41.sel [0, 3, 1, 2] (by decide)⟩
theorem entry_read_some (w0 w : World) (R : Chunk) (A : Option Addr) (c : Nat) (xs : List Int) (hx : ∀ w_, Own w0 w_ [R] → Kd.C (Kd.int .u8) w_ A xs.length xs) (hc : xs.length ≤ c) (hb : ByteL xs) (p q : Nat) (n : Int) (k : Nat) (hg : gnum xs = some (n, k)) (HO : Own w0 w (R :: [Chunk.blk p (.cells #[.int .i64 0] 2 (0, 0)), Chunk.blk q (.cells #[.int .i64 (-1)] 3 (0, 0))])) :
    Calls Try.prog 70 #[.slice A xs.length c, .func (.func 71) #[] #[.pointer (some ⟨p, 0, none⟩), .pointer (some ⟨q, 0, none⟩)]] w fun e w' => (∃ ec, e = .returned (.int .i64 ec)) ∧ Own w0 w' [R, Chunk.blk p (.cells #[.int .i64 n] 2 (0, 0)), Chunk.blk q (.cells #[.int .i64 ((xs.drop k).length : Int)] 3 (0, 0))] := by
  refine (read_list w0 w R [Chunk.blk p (.cells #[.int .i64 0] 2 (0, 0)), Chunk.blk q (.cells #[.int .i64 (-1)] 3 (0, 0))] A c xs 71 _ [.pointer (some ⟨p, 0, none⟩), .pointer (some ⟨q, 0, none⟩)] (fun n' qs => qs = [Chunk.blk p (.cells #[.int .i64 n] 2 (0, 0)), Chunk.blk q (.cells #[.int .i64 ((xs.drop k).length : Int)] 3 (0, 0))]) (fun _ => False) (fun _ => False) Try.func71 (by kernel_rfl) rfl ?_ HO).mono ?_
  · intro R' g w1 hR hO
    refine (entry1_calls w0 w1 R' g A c xs (fun w_ h_ => hx w_ (hR w_ h_)) hc hb p q hO).mono ?_
    rintro e w2 (⟨n1, k1, A', c', h1, rfl, h⟩ | ⟨h1, rfl, h⟩)
    · rw [hg] at h1; injection h1 with h1; injection h1 with h1 h2; subst h1 h2; exact .inl ⟨A', _, c', _, rfl, rfl, h⟩
    · rw [hg] at h1; cases h1
  · rintro e w2 (⟨n', qs, rfl, hq, h⟩ | ⟨qs, rfl, hq, h⟩ | ⟨_, _, h, _⟩)
    · rw [hq] at h; exact ⟨⟨_, rfl⟩, h⟩
    · exact hq.elim
    · exact h.elim
theorem entry_read_none (w0 w : World) (R : Chunk) (A : Option Addr) (c : Nat) (xs : List Int) (hx : ∀ w_, Own w0 w_ [R] → Kd.C (Kd.int .u8) w_ A xs.length xs) (hc : xs.length ≤ c) (hb : ByteL xs) (p q : Nat) (hg : gnum xs = none) (HO : Own w0 w (R :: [Chunk.blk p (.cells #[.int .i64 0] 2 (0, 0)), Chunk.blk q (.cells #[.int .i64 (-1)] 3 (0, 0))])) :
    Calls Try.prog 70 #[.slice A xs.length c, .func (.func 71) #[] #[.pointer (some ⟨p, 0, none⟩), .pointer (some ⟨q, 0, none⟩)]] w fun e w' => (∃ ec, e = .returned (.int .i64 ec)) ∧ Own w0 w' [R, Chunk.blk p (.cells #[.int .i64 0] 2 (0, 0)), Chunk.blk q (.cells #[.int .i64 (-1)] 3 (0, 0))] := by
  refine (read_list w0 w R [Chunk.blk p (.cells #[.int .i64 0] 2 (0, 0)), Chunk.blk q (.cells #[.int .i64 (-1)] 3 (0, 0))] A c xs 71 _ [.pointer (some ⟨p, 0, none⟩), .pointer (some ⟨q, 0, none⟩)] (fun _ _ => False) (fun qs => qs = [Chunk.blk p (.cells #[.int .i64 0] 2 (0, 0)), Chunk.blk q (.cells #[.int .i64 (-1)] 3 (0, 0))]) (fun _ => False) Try.func71 (by kernel_rfl) rfl ?_ HO).mono ?_
  · intro R' g w1 hR hO
    refine (entry1_calls w0 w1 R' g A c xs (fun w_ h_ => hx w_ (hR w_ h_)) hc hb p q hO).mono ?_
    rintro e w2 (⟨n1, k1, A', c', h1, rfl, h⟩ | ⟨h1, rfl, h⟩)
    · rw [hg] at h1; cases h1
    · exact .inr (.inl ⟨_, rfl, rfl, h⟩)
  · rintro e w2 (⟨n', qs, rfl, hq, h⟩ | ⟨qs, rfl, hq, h⟩ | ⟨_, _, h, _⟩)
    · exact hq.elim
    · rw [hq] at h; exact ⟨⟨_, rfl⟩, h⟩
    · exact h.elim
set_option maxHeartbeats 4000000 in
set_option maxRecDepth 100000 in
theorem entry_calls (A : Option Addr) (c : Nat) (xs : List Int) (w : World) (hx : Kd.C (Kd.int .u8) w A xs.length xs) (hc : xs.length ≤ c) (hb : ByteL xs) (hl : xs.length ≤ 1000000) :
    Calls Try.prog 59 #[.slice A xs.length c] w fun e w' => (entryP xs = none ∧ e = .returned (.tuple #[.int .i64 0, .slice none 0 0, .bool false]) ∧ Below w.heap.size w w') ∨ (∃ n k A' c', entryP xs = some (n, k) ∧ e = .returned (.tuple #[.int .i64 n, .slice A' (xs.drop k).length c', .bool true]) ∧ (∀ W, Kd.C (Kd.int .u8) W A xs.length xs → Kd.C (Kd.int .u8) W A' (xs.drop k).length (xs.drop k)) ∧ (xs.drop k).length ≤ c' ∧ Below w.heap.size w w') := by
 refine gw_start (N := 26) (vs := [.slice A xs.length c]) Try.func59 rfl rfl (by simp) fun a HF HO => ?_
 replace HO : Own w w [] := HO
 rcases hgn : gnum xs with _ | ⟨n, k⟩
 ·
  refine gw_seq fun K1 hK1 => ?_
  refine wp_region_lit ?_
  refine gw_new HF HO (want_none rfl) rfl (by decide) (op_alloc gwzer2 rfl) ?_
  intro g2 _ w4 H5 O6; clear HF HO
  have O7 : Own w w4 [Bk g2 [J 0] 2] := O6
  clear O6
  refine V H5 (op_assign rfl (ev_c _ _)) ?_
  intro _ H9; clear H5
  refine V H9 (op_assign rfl (ev_c _ _)) ?_
  intro _ H11; clear H9
  refine wpList_nil ?_
  refine gw_nx (hK1 _ _ ?_)
  refine gw_seq fun K12 hK12 => ?_
  refine wp_region_lit ?_
  refine gw_new H11 O7 (want_none rfl) rfl (by decide) (op_alloc gwzer3 rfl) ?_
  intro g13 _ w15 H16 O17; clear H11 O7
  have O18 : Own w w15 [Bk g13 [J 0] 3, Bk g2 [J 0] 2] := O17
  clear O17
  refine gw_set 0 H16 O18 rfl (want_none rfl) rfl (op_store1 gwsiz3 rfl (H16.ev rfl) (ev_c _ _) rfl (blk_at (O18.get 0 rfl) rfl) (blkf (O18.get 0 rfl))) ?_
  intro _ w21 H20 O22; clear H16 O18
  have O23 : Own w w21 [Bk g13 [J (-1)] 3, Bk g2 [J 0] 2] := O22
  clear O22
  refine wpList_nil ?_
  refine gw_nx (hK12 _ _ ?_)
  refine gw_seq fun K24 hK24 => ?_
  refine wp_region_lit ?_
  refine V H20 (op_move rfl (H20.ev rfl)) ?_
  intro _ H26; clear H20
  refine V H26 (op_func rfl (ar_cons (H26.ev rfl) (ar_cons (H26.ev rfl) ar_nil))) ?_
  intro _ H28; clear H26
  have O36 : Own w _ [(Chunk.all []), Bk g2 [J 0] 2, Bk g13 [J (-1)] 3] := Own.bundle (A := []) (L := [Bk g2 [J 0] 2, Bk g13 [J (-1)] 3]) (O23.sel [1, 0] (by decide))
  refine gw_call H28 (want_none rfl) rfl (by decide) (op_callL Try.func70 (by kernel_rfl) rfl rfl (ar_cons (H28.ev rfl) (ar_cons (H28.ev rfl) ar_nil))) (entry_read_none w _ (Chunk.all []) A c xs (fun w_ h_ => Kd.C_below hx h_.below) hc hb g2 g13 hgn O36) ?_
  rintro e30 w31 ⟨⟨ec29, rfl⟩, hb32⟩
  refine ⟨_, rfl, fun _ H34 => ?_⟩
  have O35 : Own w w31 [Bk g2 [J 0] 2, Bk g13 [J (-1)] 3] := Own.unbundle (A := []) (L := [Bk g2 [J 0] 2, Bk g13 [J (-1)] 3]) (hb32.sel [0, 1, 2] (by decide))
  clear O36
  clear H28 O23 hb32
  have O38 : Own w w31 [Bk g2 [J 0] 2, Bk g13 [J (-1)] 3] := O35
  clear O35
  refine wpList_nil ?_
  refine gw_nx (hK24 _ _ ?_)
  refine gw_seq fun K39 hK39 => ?_
  refine gw_seq fun K40 hK40 => ?_
  refine wp_region_lit ?_
  refine V H34 (op_load1 gwagg3 rfl (H34.ev rfl) (blk_at (O38.get 1 rfl) rfl)) ?_
  intro _ H42; clear H34
  refine V H42 (op_lss rfl (H42.ev rfl) (ev_c _ _)) ?_
  intro _ H44; clear H42
  have H45 := H44.lit (b := true) (by decide)
  clear H44
  refine V H45 (op_move rfl (H45.ev rfl)) ?_
  intro _ H47; clear H45
  refine Vo H47 (wn H47 rfl rfl rfl rfl) ?_
  intro _ H49; clear H47
  refine Vo H49 (wn H49 rfl rfl rfl rfl) ?_
  intro _ H51; clear H49
  refine V H51 (op_pick_t rfl (H51.ev rfl) (ev_c _ _)) ?_
  intro _ H53; clear H51
  refine V H53 (op_move rfl (H53.ev rfl)) ?_
  intro _ H55; clear H53
  refine Vo H55 (wn H55 rfl rfl rfl rfl) ?_
  intro _ H57; clear H55
  refine Vo H57 (wn H57 rfl rfl rfl rfl) ?_
  intro _ H59; clear H57
  refine V H59 (op_pick_t rfl (H59.ev rfl) (ev_c _ _)) ?_
  intro _ H61; clear H59
  refine wpList_nil ?_
  refine gw_nx (hK40 _ _ ?_)
  refine gw_cond H61 rfl (fun hb62 => ?_) (fun hb62 => ?_)
  rotate_left
  ·
   cases hb62
  refine gw_seq fun K63 hK63 => ?_
  refine wp_region_lit ?_
  refine gw_set 0 H61 O38 rfl (want_none rfl) rfl (op_store1 gwsiz2 rfl (H61.ev rfl) (ev_c _ _) rfl (blk_at (O38.get 0 rfl) rfl) (blkf (O38.get 0 rfl))) ?_
  intro _ w66 H65 O67; clear H61 O38
  have O68 : Own w w66 [Bk g2 [J 0] 2, Bk g13 [J (-1)] 3] := O67
  clear O67
  refine V H65 (op_assign rfl (ev_c _ _)) ?_
  intro _ H70; clear H65
  refine V H70 (op_assign rfl (ev_c _ _)) ?_
  intro _ H72; clear H70
  refine wpList_nil ?_
  refine gw_nx (hK63 _ _ ?_)
  refine wp_ret ?_
  refine gw_thr ?_
  refine gw_rets3 H72 rfl (rv_cell1 H72 rfl gwagg2 (blk_at (O68.get 0 rfl) rfl)) (rv_tmp H72 rfl) (rv_tmp H72 rfl) ?_
  exact .inl ⟨entry_none1 hgn, rfl, O68.below⟩
 ·
  have hgs := gnum_some hgn
  have hle : (xs.drop k).length = xs.length - k := List.length_drop
  have hdr : ((xs.drop k).length : Int) = xs.length - k := by omega
  refine gw_seq fun K73 hK73 => ?_
  refine wp_region_lit ?_
  refine gw_new HF HO (want_none rfl) rfl (by decide) (op_alloc gwzer2 rfl) ?_
  intro g74 _ w76 H77 O78; clear HF HO
  have O79 : Own w w76 [Bk g74 [J 0] 2] := O78
  clear O78
  refine V H77 (op_assign rfl (ev_c _ _)) ?_
  intro _ H81; clear H77
  refine V H81 (op_assign rfl (ev_c _ _)) ?_
  intro _ H83; clear H81
  refine wpList_nil ?_
  refine gw_nx (hK73 _ _ ?_)
  refine gw_seq fun K84 hK84 => ?_
  refine wp_region_lit ?_
  refine gw_new H83 O79 (want_none rfl) rfl (by decide) (op_alloc gwzer3 rfl) ?_
  intro g85 _ w87 H88 O89; clear H83 O79
  have O90 : Own w w87 [Bk g85 [J 0] 3, Bk g74 [J 0] 2] := O89
  clear O89
  refine gw_set 0 H88 O90 rfl (want_none rfl) rfl (op_store1 gwsiz3 rfl (H88.ev rfl) (ev_c _ _) rfl (blk_at (O90.get 0 rfl) rfl) (blkf (O90.get 0 rfl))) ?_
  intro _ w93 H92 O94; clear H88 O90
  have O95 : Own w w93 [Bk g85 [J (-1)] 3, Bk g74 [J 0] 2] := O94
  clear O94
  refine wpList_nil ?_
  refine gw_nx (hK84 _ _ ?_)
  refine gw_seq fun K96 hK96 => ?_
  refine wp_region_lit ?_
  refine V H92 (op_move rfl (H92.ev rfl)) ?_
  intro _ H98; clear H92
  refine V H98 (op_func rfl (ar_cons (H98.ev rfl) (ar_cons (H98.ev rfl) ar_nil))) ?_
  intro _ H100; clear H98
  have O108 : Own w _ [(Chunk.all []), Bk g74 [J 0] 2, Bk g85 [J (-1)] 3] := Own.bundle (A := []) (L := [Bk g74 [J 0] 2, Bk g85 [J (-1)] 3]) (O95.sel [1, 0] (by decide))
  refine gw_call H100 (want_none rfl) rfl (by decide) (op_callL Try.func70 (by kernel_rfl) rfl rfl (ar_cons (H100.ev rfl) (ar_cons (H100.ev rfl) ar_nil))) (entry_read_some w _ (Chunk.all []) A c xs (fun w_ h_ => Kd.C_below hx h_.below) hc hb g74 g85 n k hgn O108) ?_
  rintro e102 w103 ⟨⟨ec101, rfl⟩, hb104⟩
  refine ⟨_, rfl, fun _ H106 => ?_⟩
  have O107 : Own w w103 [Bk g74 [J n] 2, Bk g85 [J ((xs.drop k).length : Int)] 3] := Own.unbundle (A := []) (L := [Bk g74 [J n] 2, Bk g85 [J ((xs.drop k).length : Int)] 3]) (hb104.sel [0, 1, 2] (by decide))
  clear O108
  clear H100 O95 hb104
  have O110 : Own w w103 [Bk g74 [J n] 2, Bk g85 [J ((xs.drop k).length : Int)] 3] := O107
  clear O107
  refine wpList_nil ?_
  refine gw_nx (hK96 _ _ ?_)
  refine gw_seq fun K111 hK111 => ?_
  refine gw_seq fun K112 hK112 => ?_
  refine wp_region_lit ?_
  refine V H106 (op_load1 gwagg3 rfl (H106.ev rfl) (blk_at (O110.get 1 rfl) rfl)) ?_
  intro _ H114; clear H106
  refine V H114 (op_lss rfl (H114.ev rfl) (ev_c _ _)) ?_
  intro _ H116; clear H114
  refine V H116 (op_move rfl (H116.ev rfl)) ?_
  intro _ H118; clear H116
  refine gw_evG H118 rfl rfl rfl rfl (on_f _) rfl (by decide) (fun h_ => (op_load1 gwagg3 rfl (H118.ev rfl) (blk_at (O110.get 1 rfl) rfl))) ?_
  intro _ H120; clear H118
  refine gw_evG H120 rfl rfl rfl rfl (on_f _) rfl (by decide) (fun h_ => (op_gtr rfl (ev_gv (H120.ev rfl) h_) (ev_c _ _))) ?_
  intro _ H122; clear H120
  refine V H122 (op_pick_or rfl (H122.ev rfl) (ev_c _ _) (fun hp_ => (ev_gv (H122.ev rfl) (not_t hp_)))) ?_
  intro _ H124; clear H122
  refine V H124 (op_move rfl (H124.ev rfl)) ?_
  intro _ H126; clear H124
  refine gw_evG H126 rfl rfl rfl rfl (on_f _) rfl (by decide) (fun h_ => (op_load1 gwagg2 rfl (H126.ev rfl) (blk_at (O110.get 0 rfl) rfl))) ?_
  intro _ H128; clear H126
  refine gw_evG H128 rfl rfl rfl rfl (on_f _) rfl (by decide) (fun h_ => (op_gtr rfl (ev_gv (H128.ev rfl) h_) (ev_c _ _))) ?_
  intro _ H130; clear H128
  refine V H130 (op_pick_or rfl (H130.ev rfl) (ev_c _ _) (fun hp_ => (ev_gv (H130.ev rfl) (not_t hp_)))) ?_
  intro _ H132; clear H130
  refine wpList_nil ?_
  refine gw_nx (hK112 _ _ ?_)
  refine gw_cond H132 rfl (fun hb133 => ?_) (fun hb133 => ?_)
  ·
   have H134 := H132.subst_ (d := 18) (b := true) rfl hb133
   clear H132
   (try simp only [Bool.and_eq_true, Bool.or_eq_true, Bool.and_eq_false_iff, Bool.or_eq_false_iff, Bool.not_and, Bool.not_or, Bool.not_not, decide_eq_true_eq, decide_eq_false_iff_not, Bool.not_eq_true', Bool.not_eq_false', Bool.not_eq_true, Bool.not_eq_false, ne_eq, Decidable.not_not, Int.not_lt, Int.not_le, not_true_eq_false, not_false_eq_true, bne_iff_ne, beq_iff_eq, bne_eq_false_iff_eq, beq_eq_false_iff_ne] at hb133)
   refine gw_seq fun K135 hK135 => ?_
   refine wp_region_lit ?_
   refine gw_set 0 H134 O110 rfl (want_none rfl) rfl (op_store1 gwsiz2 rfl (H134.ev rfl) (ev_c _ _) rfl (blk_at (O110.get 0 rfl) rfl) (blkf (O110.get 0 rfl))) ?_
   intro _ w138 H137 O139; clear H134 O110
   have O140 : Own w w138 [Bk g74 [J 0] 2, Bk g85 [J ((xs.drop k).length : Int)] 3] := O139
   clear O139
   refine V H137 (op_assign rfl (ev_c _ _)) ?_
   intro _ H142; clear H137
   refine V H142 (op_assign rfl (ev_c _ _)) ?_
   intro _ H144; clear H142
   refine wpList_nil ?_
   refine gw_nx (hK135 _ _ ?_)
   refine wp_ret ?_
   refine gw_thr ?_
   refine gw_rets3 H144 rfl (rv_cell1 H144 rfl gwagg2 (blk_at (O140.get 0 rfl) rfl)) (rv_tmp H144 rfl) (rv_tmp H144 rfl) ?_
   exact .inl ⟨entry_none2 hgn (by simp only [List.length_drop] at *; omega), rfl, O140.below⟩
  ·
   have H145 := H132.subst_ (d := 18) (b := false) rfl hb133
   clear H132
   (try simp only [Bool.and_eq_true, Bool.or_eq_true, Bool.and_eq_false_iff, Bool.or_eq_false_iff, Bool.not_and, Bool.not_or, Bool.not_not, decide_eq_true_eq, decide_eq_false_iff_not, Bool.not_eq_true', Bool.not_eq_false', Bool.not_eq_true, Bool.not_eq_false, ne_eq, Decidable.not_not, Int.not_lt, Int.not_le, not_true_eq_false, not_false_eq_true, bne_iff_ne, beq_iff_eq, bne_eq_false_iff_eq, beq_eq_false_iff_ne] at hb133)
   refine wp_skip ?_
   refine gw_nx (hK111 _ _ ?_)
   refine gw_seq fun K146 hK146 => ?_
   refine gx_draw (M := [Bk g74 [J n] 2, Bk g85 [J ((xs.drop k).length : Int)] 3]) (fun j_ => false) O110 (by kernel_rfl) fun w147 O148 => ?_
   clear O110
   refine gx_take 0 rfl (by kernel_rfl) H145 (by exact O148.sel [0, 1] (by decide)) (want_none rfl) rfl (by decide) (fun wq HO => (op_load1 gwagg2 rfl (H145.ev rfl) (blk_at (HO.get 0 rfl) rfl))) ?_
   intro _ H150; clear H145
   refine gx_take 1 rfl (by kernel_rfl) H150 (by exact O148.sel [0, 1] (by decide)) (want_none rfl) rfl (by decide) (fun wq HO => (op_move rfl (H150.ev rfl))) ?_
   intro _ H152; clear H150
   refine gx_take 2 rfl (by kernel_rfl) H152 (by exact O148.sel [0, 1] (by decide)) (want_none rfl) rfl (by decide) (fun wq HO => (op_move rfl (H152.ev rfl))) ?_
   intro _ H154; clear H152
   refine gx_take 3 rfl (by kernel_rfl) H154 (by exact O148.sel [0, 1] (by decide)) (want_none rfl) rfl (by decide) (fun wq HO => (op_len Try.underlying28 rfl (H154.ev rfl))) ?_
   intro _ H156; clear H154
   refine gx_take 4 rfl (by kernel_rfl) H156 (by exact O148.sel [0, 1] (by decide)) (want_none rfl) rfl (by decide) (fun wq HO => (op_load1 gwagg3 rfl (H156.ev rfl) (blk_at (HO.get 1 rfl) rfl))) ?_
   intro _ H158; clear H156
   refine gx_take 5 rfl (by kernel_rfl) H158 (by exact O148.sel [0, 1] (by decide)) (want_none rfl) rfl (by decide) (fun wq HO => (op_sub rfl (H158.ev rfl) (H158.ev rfl) (by omega))) ?_
   intro _ H160; clear H158
   have H161 := H160.conv (v' := J (k : Int)) (by congr 1; omega)
   clear H160
   obtain ⟨A162, c163, hr164, hc165, hC166, hA167⟩ := cut_lo (P := Try.prog) (d := (Kd.int .u8)) (t := 28) (e := 5) Try.underlying28 gwsiz5 A c xs hc (k : Int) (by omega) (by omega)
   refine gx_take 6 rfl (by kernel_rfl) H161 (by exact O148.sel [0, 1] (by decide)) (want_none rfl) rfl (by decide) (fun wq HO => (op_cut Try.underlying28 hr164 rfl (H161.ev rfl) (some_ev (H161.ev rfl)) rfl)) ?_
   intro _ H169; clear H161
   refine gx_step 7 rfl (by kernel_rfl) ?_
   refine gw_set 0 H169 O148 rfl (want_none rfl) rfl (op_store1 gwsiz2 rfl (H169.ev rfl) (H169.ev rfl) rfl (blk_at (O148.get 0 rfl) rfl) (blkf (O148.get 0 rfl))) ?_
   intro _ w172 H171 O173; clear H169 O148
   have O174 : Own w w172 [Bk g74 [J n] 2, Bk g85 [J ((xs.drop k).length : Int)] 3] := O173
   clear O173
   refine gx_on (i := 7) (B := (fun j_ => false)) (M := [Bk g74 [J n] 2, Bk g85 [J ((xs.drop k).length : Int)] 3]) (fun _ => (by exact O174.sel [0, 1] (by decide))) ?_
   refine gx_take 8 rfl (by kernel_rfl) H171 (by exact O174.sel [0, 1] (by decide)) (want_none rfl) rfl (by decide) (fun wq HO => (op_assign rfl (H171.ev rfl))) ?_
   intro _ H176; clear H171
   refine gx_take 9 rfl (by kernel_rfl) H176 (by exact O174.sel [0, 1] (by decide)) (want_none rfl) rfl (by decide) (fun wq HO => (op_assign rfl (ev_c _ _))) ?_
   intro _ H178; clear H176
   refine gx_done (by kernel_rfl) ?_
   refine gw_nx (hK146 _ _ ?_)
   refine wp_ret ?_
   refine gw_rets3 H178 rfl (rv_cell1 H178 rfl gwagg2 (blk_at (O174.get 0 rfl) rfl)) (rv_tmp H178 rfl) (rv_tmp H178 rfl) ?_
   exact .inr ⟨n, k, A162, c163, entry_some hgn (by simp only [List.length_drop] at *; omega) (by omega), rfl, hC166, hc165, O174.below⟩
end GJour0_
export GJour0_ (entry_calls)
end Go.Proofs.Ytkdahjnmldeklaa.PA
end
section
namespace Go.Proofs.Ytkdahjnmldeklaa.PA
open Go.RowKit Go.Proofs.YtkdahjnmldeklaaW.PrintWords Go.Proofs.YtkdahjnmldeklaaW.PrintLast Go.Proofs.YtkdahjnmldeklaaW.PrintMore
set_option linter.unusedVariables false
set_option linter.unusedSimpArgs false
namespace GJour1_
theorem gwagg3 : ∀ w, (isAgg 3).run Try.prog w = .ok false w := fun _ => by kernel_rfl
theorem gwagg98 : ∀ w, (isAgg 98).run Try.prog w = .ok false w := fun _ => by kernel_rfl
theorem gwfld100_2 (g off : Nat) : ∀ w, (Instr.fieldAt 100 (.pointer (some ⟨g, off, none⟩)) 2).run Try.prog w = .ok (.pointer (some ⟨g, off + 2, none⟩)) w := fun _ => by kernel_rfl
theorem gwfld100_3 (g off : Nat) : ∀ w, (Instr.fieldAt 100 (.pointer (some ⟨g, off, none⟩)) 3).run Try.prog w = .ok (.pointer (some ⟨g, off + 3, none⟩)) w := fun _ => by kernel_rfl
theorem gwzer28 : ∀ w, (zeroValue 28).run Try.prog w = .ok (.slice none 0 0) w := fun _ => by kernel_rfl
set_option maxHeartbeats 4000000 in
set_option maxRecDepth 100000 in
theorem has_calls (base gd gj : Nat) (nm : ByteArray) (S : Nat → Prop) (is : List PI) (size : Int) (w : World) (hJ : (Chunk.jour base gd gj nm S is size).P w) (key : Int) (hkw : (Lit.int .i64 key).wf = true) :
    Calls Try.prog 38 #[.pointer (some ⟨gj, 0, none⟩), .int .i64 key] w fun e w' => e = .returned (.bool (hasJ key is)) ∧ Below w.heap.size w w' := by
 obtain ⟨gm, xs, hxs, hon, hB, hL, hfs⟩ := jour_blk hJ
 refine gw_start (N := 17) (vs := [.pointer (some ⟨gj, 0, none⟩), J key]) Try.func38 rfl rfl (by simp) fun a HF HO => ?_
 replace HO : Own w w [] := HO
 rcases lookJ key xs with ⟨hl, hg0, hno⟩ | ⟨x, hx, hkx, hl, hg0⟩
 ·
  have hgi : getJ key is = none := (getJ_perm hon hxs).symm.trans hg0
  have hhi : hasJ key is = false := by unfold hasJ; rw [hgi]; rfl
  refine gw_seq fun K1 hK1 => ?_
  refine wp_region_lit ?_
  refine V HF (op_assign rfl (ev_c _ _)) ?_
  intro _ H3; clear HF
  refine wpList_nil ?_
  refine gw_nx (hK1 _ _ ?_)
  refine gw_seq fun K4 hK4 => ?_
  refine wp_region_lit ?_
  refine V H3 (op_move rfl (H3.ev rfl)) ?_
  intro _ H6; clear H3
  refine V H6 (op_nil rfl (H6.ev rfl)) ?_
  intro _ H8; clear H6
  refine V H8 (op_field (gwfld100_2 _ _) rfl (H8.ev rfl)) ?_
  intro _ H10; clear H8
  refine V H10 (op_load1 gwagg98 rfl (H10.ev rfl) (blk_at (argblk HO hB) rfl)) ?_
  intro _ H12; clear H10
  refine V H12 (op_move rfl (H12.ev rfl)) ?_
  intro _ H14; clear H12
  refine V H14 (op_mlok_none (Go.Maps.int_keyed Try.underlying2) Try.underlying98 gwzer28 rfl (H14.ev rfl) (H14.ev rfl) (Go.Maps.keyOf_int_mk Try.underlying2 (hkw)) (lmap_arg HO hL) (hl)) ?_
  intro _ H16; clear H14
  refine V H16 (op_move rfl (H16.ev rfl)) ?_
  intro _ H18; clear H16
  refine V H18 (op_extract rfl (H18.ev rfl) rfl) ?_
  intro _ H20; clear H18
  refine V H20 (op_extract rfl (H20.ev rfl) rfl) ?_
  intro _ H22; clear H20
  refine V H22 (op_assign rfl (H22.ev rfl)) ?_
  intro _ H24; clear H22
  refine V H24 (op_assign rfl (H24.ev rfl)) ?_
  intro _ H26; clear H24
  refine wpList_nil ?_
  refine gw_nx (hK4 _ _ ?_)
  refine gw_seq fun K27 hK27 => ?_
  refine wp_region_lit ?_
  refine V H26 (op_move rfl (H26.ev rfl)) ?_
  intro _ H29; clear H26
  refine V H29 (op_assign rfl (H29.ev rfl)) ?_
  intro _ H31; clear H29
  refine wpList_nil ?_
  refine gw_nx (hK27 _ _ ?_)
  refine wp_ret ?_
  refine gw_ret1 H31 rfl rfl ?_
  rw [hhi]
  exact ⟨rfl, HO.below⟩
 ·
  have hgi : getJ key is = some x.b := (getJ_perm hon hxs).symm.trans hg0
  have hhi : hasJ key is = true := by unfold hasJ; rw [hgi]; rfl
  refine gw_seq fun K32 hK32 => ?_
  refine wp_region_lit ?_
  refine V HF (op_assign rfl (ev_c _ _)) ?_
  intro _ H34; clear HF
  refine wpList_nil ?_
  refine gw_nx (hK32 _ _ ?_)
  refine gw_seq fun K35 hK35 => ?_
  refine wp_region_lit ?_
  refine V H34 (op_move rfl (H34.ev rfl)) ?_
  intro _ H37; clear H34
  refine V H37 (op_nil rfl (H37.ev rfl)) ?_
  intro _ H39; clear H37
  refine V H39 (op_field (gwfld100_2 _ _) rfl (H39.ev rfl)) ?_
  intro _ H41; clear H39
  refine V H41 (op_load1 gwagg98 rfl (H41.ev rfl) (blk_at (argblk HO hB) rfl)) ?_
  intro _ H43; clear H41
  refine V H43 (op_move rfl (H43.ev rfl)) ?_
  intro _ H45; clear H43
  refine V H45 (op_mlok_some (Go.Maps.int_keyed Try.underlying2) Try.underlying98 gwzer28 rfl (H45.ev rfl) (H45.ev rfl) (Go.Maps.keyOf_int_mk Try.underlying2 (hkw)) (lmap_arg HO hL) (hl)) ?_
  intro _ H47; clear H45
  refine V H47 (op_move rfl (H47.ev rfl)) ?_
  intro _ H49; clear H47
  refine V H49 (op_extract rfl (H49.ev rfl) rfl) ?_
  intro _ H51; clear H49
  refine V H51 (op_extract rfl (H51.ev rfl) rfl) ?_
  intro _ H53; clear H51
  refine V H53 (op_assign rfl (H53.ev rfl)) ?_
  intro _ H55; clear H53
  refine V H55 (op_assign rfl (H55.ev rfl)) ?_
  intro _ H57; clear H55
  refine wpList_nil ?_
  refine gw_nx (hK35 _ _ ?_)
  refine gw_seq fun K58 hK58 => ?_
  refine wp_region_lit ?_
  refine V H57 (op_move rfl (H57.ev rfl)) ?_
  intro _ H60; clear H57
  refine V H60 (op_assign rfl (H60.ev rfl)) ?_
  intro _ H62; clear H60
  refine wpList_nil ?_
  refine gw_nx (hK58 _ _ ?_)
  refine wp_ret ?_
  refine gw_ret1 H62 rfl rfl ?_
  rw [hhi]
  exact ⟨rfl, HO.below⟩
set_option maxHeartbeats 4000000 in
set_option maxRecDepth 100000 in
theorem get_calls (base gd gj : Nat) (nm : ByteArray) (S : Nat → Prop) (is : List PI) (size : Int) (w : World) (hJ : (Chunk.jour base gd gj nm S is size).P w) (key : Int) (hkw : (Lit.int .i64 key).wf = true) (hlen : ∀ x ∈ is, x.2.length ≤ 1000000) :
    Calls Try.prog 36 #[.pointer (some ⟨gj, 0, none⟩), .int .i64 key] w fun e w' => ∃ A c S', e = .returned (.tuple #[.slice A ((getJ key is).getD []).length c, .bool (hasJ key is)]) ∧ Out w w' (fun _ => False) [Chunk.row (Kd.int .u8) 5 w.heap.size S' (.slice A ((getJ key is).getD []).length c) ((getJ key is).getD [])] := by
 obtain ⟨gm, xs, hxs, hon, hB, hL, hfs⟩ := jour_blk hJ
 refine gw_start (N := 20) (vs := [.pointer (some ⟨gj, 0, none⟩), J key]) Try.func36 rfl rfl (by simp) fun a HF HO => ?_
 replace HO : Own w w [] := HO
 rcases lookJ key xs with ⟨hl, hg0, hno⟩ | ⟨x, hx, hkx, hl, hg0⟩
 ·
  have hgi : getJ key is = none := (getJ_perm hon hxs).symm.trans hg0
  have hhi : hasJ key is = false := by unfold hasJ; rw [hgi]; rfl
  refine gw_seq fun K1 hK1 => ?_
  refine wp_region_lit ?_
  refine V HF (op_assign rfl (ev_c _ _)) ?_
  intro _ H3; clear HF
  refine V H3 (op_assign rfl (ev_c _ _)) ?_
  intro _ H5; clear H3
  refine wpList_nil ?_
  refine gw_nx (hK1 _ _ ?_)
  refine gw_seq fun K6 hK6 => ?_
  refine wp_region_lit ?_
  refine V H5 (op_move rfl (H5.ev rfl)) ?_
  intro _ H8; clear H5
  refine V H8 (op_nil rfl (H8.ev rfl)) ?_
  intro _ H10; clear H8
  refine V H10 (op_field (gwfld100_2 _ _) rfl (H10.ev rfl)) ?_
  intro _ H12; clear H10
  refine V H12 (op_load1 gwagg98 rfl (H12.ev rfl) (blk_at (argblk HO hB) rfl)) ?_
  intro _ H14; clear H12
  refine V H14 (op_move rfl (H14.ev rfl)) ?_
  intro _ H16; clear H14
  refine V H16 (op_mlok_none (Go.Maps.int_keyed Try.underlying2) Try.underlying98 gwzer28 rfl (H16.ev rfl) (H16.ev rfl) (Go.Maps.keyOf_int_mk Try.underlying2 (hkw)) (lmap_arg HO hL) (hl)) ?_
  intro _ H18; clear H16
  refine V H18 (op_move rfl (H18.ev rfl)) ?_
  intro _ H20; clear H18
  refine V H20 (op_extract rfl (H20.ev rfl) rfl) ?_
  intro _ H22; clear H20
  refine V H22 (op_extract rfl (H22.ev rfl) rfl) ?_
  intro _ H24; clear H22
  refine V H24 (op_assign rfl (H24.ev rfl)) ?_
  intro _ H26; clear H24
  refine V H26 (op_assign rfl (H26.ev rfl)) ?_
  intro _ H28; clear H26
  refine wpList_nil ?_
  refine gw_nx (hK6 _ _ ?_)
  refine gw_seq fun K29 hK29 => ?_
  refine wp_region_lit ?_
  refine V H28 (op_move rfl (H28.ev rfl)) ?_
  intro _ H31; clear H28
  refine gw_call H31 (want_none rfl) rfl (by decide) (op_callL Try.func45 (by kernel_rfl) rfl rfl (ar_cons (H31.ev rfl) ar_nil)) (clone0 none 0 ([]) _ (Kd.C_nil _ _) (Nat.le_refl _) (by first | omega | (show 0 < _; omega))) ?_
  rintro e35 w36 ⟨A32, c33, S34, rfl, hb37⟩
  refine ⟨_, rfl, fun _ H39 => ?_⟩
  have O40 := HO.fresh hb37
  have hbel41 := HO.below
  clear H31 HO hb37
  have O42 := O40.lowrow 0 rfl (base' := w.heap.size) (Below.size hbel41)
  have O43 : Own w w36 [Chunk.row (Kd.int .u8) 5 w.heap.size S34 (.slice A32 (([]).length) c33) ([])] := O42
  clear O42
  refine V H39 (op_move rfl (H39.ev rfl)) ?_
  intro _ H45; clear H39
  refine V H45 (op_assign rfl (H45.ev rfl)) ?_
  intro _ H47; clear H45
  refine V H47 (op_assign rfl (H47.ev rfl)) ?_
  intro _ H49; clear H47
  refine wpList_nil ?_
  refine gw_nx (hK29 _ _ ?_)
  refine wp_ret ?_
  refine gw_ret2 H49 rfl rfl rfl ?_
  rw [hgi, hhi]
  exact ⟨_, _, _, rfl, (O43.sel [0] (by decide)).out⟩
 ·
  have hgi : getJ key is = some x.b := (getJ_perm hon hxs).symm.trans hg0
  have hhi : hasJ key is = true := by unfold hasJ; rw [hgi]; rfl
  obtain ⟨hC, hcx⟩ := hfs x hx
  have hxb : x.b.length ≤ 1000000 := hlen (key, x.b) ((getJ_iff (onceJ_perm hon hxs)).1 hgi)
  refine gw_seq fun K50 hK50 => ?_
  refine wp_region_lit ?_
  refine V HF (op_assign rfl (ev_c _ _)) ?_
  intro _ H52; clear HF
  refine V H52 (op_assign rfl (ev_c _ _)) ?_
  intro _ H54; clear H52
  refine wpList_nil ?_
  refine gw_nx (hK50 _ _ ?_)
  refine gw_seq fun K55 hK55 => ?_
  refine wp_region_lit ?_
  refine V H54 (op_move rfl (H54.ev rfl)) ?_
  intro _ H57; clear H54
  refine V H57 (op_nil rfl (H57.ev rfl)) ?_
  intro _ H59; clear H57
  refine V H59 (op_field (gwfld100_2 _ _) rfl (H59.ev rfl)) ?_
  intro _ H61; clear H59
  refine V H61 (op_load1 gwagg98 rfl (H61.ev rfl) (blk_at (argblk HO hB) rfl)) ?_
  intro _ H63; clear H61
  refine V H63 (op_move rfl (H63.ev rfl)) ?_
  intro _ H65; clear H63
  refine V H65 (op_mlok_some (Go.Maps.int_keyed Try.underlying2) Try.underlying98 gwzer28 rfl (H65.ev rfl) (H65.ev rfl) (Go.Maps.keyOf_int_mk Try.underlying2 (hkw)) (lmap_arg HO hL) (hl)) ?_
  intro _ H67; clear H65
  refine V H67 (op_move rfl (H67.ev rfl)) ?_
  intro _ H69; clear H67
  refine V H69 (op_extract rfl (H69.ev rfl) rfl) ?_
  intro _ H71; clear H69
  refine V H71 (op_extract rfl (H71.ev rfl) rfl) ?_
  intro _ H73; clear H71
  refine V H73 (op_assign rfl (H73.ev rfl)) ?_
  intro _ H75; clear H73
  refine V H75 (op_assign rfl (H75.ev rfl)) ?_
  intro _ H77; clear H75
  refine wpList_nil ?_
  refine gw_nx (hK55 _ _ ?_)
  refine gw_seq fun K78 hK78 => ?_
  refine wp_region_lit ?_
  refine V H77 (op_move rfl (H77.ev rfl)) ?_
  intro _ H80; clear H77
  refine gw_call H80 (want_none rfl) rfl (by decide) (op_callL Try.func45 (by kernel_rfl) rfl rfl (ar_cons (H80.ev rfl) ar_nil)) (clone0 x.A x.c x.b _ (Kd.C_below hC HO.below) hcx (by first | omega | (show 0 < _; omega))) ?_
  rintro e84 w85 ⟨A81, c82, S83, rfl, hb86⟩
  refine ⟨_, rfl, fun _ H88 => ?_⟩
  have O89 := HO.fresh hb86
  have hbel90 := HO.below
  clear H80 HO hb86
  have O91 := O89.lowrow 0 rfl (base' := w.heap.size) (Below.size hbel90)
  have O92 : Own w w85 [Chunk.row (Kd.int .u8) 5 w.heap.size S83 (.slice A81 x.b.length c82) x.b] := O91
  clear O91
  refine V H88 (op_move rfl (H88.ev rfl)) ?_
  intro _ H94; clear H88
  refine V H94 (op_assign rfl (H94.ev rfl)) ?_
  intro _ H96; clear H94
  refine V H96 (op_assign rfl (H96.ev rfl)) ?_
  intro _ H98; clear H96
  refine wpList_nil ?_
  refine gw_nx (hK78 _ _ ?_)
  refine wp_ret ?_
  refine gw_ret2 H98 rfl rfl rfl ?_
  rw [hgi, hhi]
  exact ⟨_, _, _, rfl, (O92.sel [0] (by decide)).out⟩
set_option maxHeartbeats 4000000 in
set_option maxRecDepth 100000 in
theorem keys_calls (base gd gj : Nat) (nm : ByteArray) (S : Nat → Prop) (is : List PI) (size : Int) (w : World) (hJ : (Chunk.jour base gd gj nm S is size).P w) (hlen : is.length ≤ 1000000) :
    Calls Try.prog 35 #[.pointer (some ⟨gj, 0, none⟩)] w fun e w' => ∃ A c S' ks, ks.Pairwise (fun x y => x < y) ∧ ks.Perm (is.map (·.1)) ∧ e = .returned (.slice A ks.length c) ∧ Out w w' (fun _ => False) [Chunk.row (Kd.int .i64) 2 w.heap.size S' (.slice A ks.length c) ks] := by
 obtain ⟨gm, xs, hxs, hon, hB, hL, hfs⟩ := jour_blk hJ
 have hxl : xs.length ≤ 1000000 := by have := hxs.length_eq; rw [List.length_map] at this; omega
 refine gw_start (N := 9) (vs := [.pointer (some ⟨gj, 0, none⟩)]) Try.func35 rfl rfl (by simp) fun a HF HO => ?_
 replace HO : Own w w [] := HO
 refine gw_seq fun K1 hK1 => ?_
 refine wp_region_lit ?_
 refine V HF (op_assign rfl (ev_c _ _)) ?_
 intro _ H3; clear HF
 refine wpList_nil ?_
 refine gw_nx (hK1 _ _ ?_)
 refine gw_seq fun K4 hK4 => ?_
 refine wp_region_lit ?_
 refine V H3 (op_move rfl (H3.ev rfl)) ?_
 intro _ H6; clear H3
 refine V H6 (op_nil rfl (H6.ev rfl)) ?_
 intro _ H8; clear H6
 refine V H8 (op_field (gwfld100_2 _ _) rfl (H8.ev rfl)) ?_
 intro _ H10; clear H8
 refine V H10 (op_load1 gwagg98 rfl (H10.ev rfl) (blk_at (argblk HO hB) rfl)) ?_
 intro _ H12; clear H10
 have hOn := HO
 refine gw_call H12 (want_none rfl) rfl (by decide) (op_callL Try.func63 (by kernel_rfl) rfl rfl (ar_cons (H12.ev rfl) ar_nil)) (keysJ_at _ _) ?_
 rintro _ _ ⟨rfl, rfl⟩
 refine ⟨_, rfl, fun _ H17 => ?_⟩
 have O18 := HO.new (.cells #[.map (some gm)] 98)
 clear H12 HO
 have O19 : Own w (w.alloc (.cells #[.map (some gm)] 98)) [Bk w.heap.size [.map (some gm)] 98] := O18
 clear O18
 refine gw_call H17 (want_none rfl) rfl (by decide) (op_callL Try.func62 (by kernel_rfl) rfl rfl (ar_cons (H17.ev rfl) ar_nil)) (sortedJ_at gm xs _ (lmap_arg hOn hL) hxl) ?_
 rintro e23 w24 ⟨A20, c21, S22, rfl, hb25⟩
 refine ⟨_, rfl, fun _ H27 => ?_⟩
 have O28 := O19.fresh hb25
 have hbel29 := O19.below
 clear H17 O19 hb25
 have O30 := O28.lowrow 0 rfl (base' := w.heap.size) (Below.size hbel29)
 have O31 : Own w w24 [Chunk.row (Kd.int .i64) 2 w.heap.size S22 (.slice A20 ((xs.map fun x => x.key).length) c21) (xs.map fun x => x.key), Bk w.heap.size [.map (some gm)] 98] := O30
 clear O30
 refine V H27 (op_assign rfl (H27.ev rfl)) ?_
 intro _ H33; clear H27
 refine wpList_nil ?_
 refine gw_nx (hK4 _ _ ?_)
 refine wp_ret ?_
 refine gw_ret1 H33 rfl rfl ?_
 exact ⟨_, _, _, _, keys_rise (lmap_rising intKey hL).1, (by have h_ := hxs.map (fun x : PI => x.1); rw [List.map_map] at h_; exact h_), rfl, (O31.sel [0] (by decide)).out⟩
set_option maxHeartbeats 4000000 in
set_option maxRecDepth 100000 in
theorem size_calls (base gd gj : Nat) (nm : ByteArray) (S : Nat → Prop) (is : List PI) (size : Int) (w : World) (hJ : (Chunk.jour base gd gj nm S is size).P w) :
    Calls Try.prog 37 #[.pointer (some ⟨gj, 0, none⟩)] w fun e w' => e = .returned (.int .i64 size) ∧ Below w.heap.size w w' := by
 obtain ⟨gm, xs, hxs, hon, hB, hL, hfs⟩ := jour_blk hJ
 refine gw_start (N := 7) (vs := [.pointer (some ⟨gj, 0, none⟩)]) Try.func37 rfl rfl (by simp) fun a HF HO => ?_
 replace HO : Own w w [] := HO
 refine gw_seq fun K1 hK1 => ?_
 refine wp_region_lit ?_
 refine V HF (op_assign rfl (ev_c _ _)) ?_
 intro _ H3; clear HF
 refine wpList_nil ?_
 refine gw_nx (hK1 _ _ ?_)
 refine gw_seq fun K4 hK4 => ?_
 refine wp_region_lit ?_
 refine V H3 (op_move rfl (H3.ev rfl)) ?_
 intro _ H6; clear H3
 refine V H6 (op_nil rfl (H6.ev rfl)) ?_
 intro _ H8; clear H6
 refine V H8 (op_field (gwfld100_3 _ _) rfl (H8.ev rfl)) ?_
 intro _ H10; clear H8
 refine V H10 (op_load1 gwagg3 rfl (H10.ev rfl) (blk_at (argblk HO hB) rfl)) ?_
 intro _ H12; clear H10
 refine V H12 (op_assign rfl (H12.ev rfl)) ?_
 intro _ H14; clear H12
 refine wpList_nil ?_
 refine gw_nx (hK4 _ _ ?_)
 refine wp_ret ?_
 refine gw_ret1 H14 rfl rfl ?_
 exact ⟨rfl, HO.below⟩
end GJour1_
export GJour1_ (has_calls get_calls keys_calls size_calls)
end Go.Proofs.Ytkdahjnmldeklaa.PA
end
section
namespace Go.Proofs.Ytkdahjnmldeklaa.PA
open Go.RowKit Go.Proofs.YtkdahjnmldeklaaW.PrintWords Go.Proofs.YtkdahjnmldeklaaW.PrintLast Go.Proofs.YtkdahjnmldeklaaW.PrintMore
set_option linter.unusedVariables false
set_option linter.unusedSimpArgs false
namespace GVfs0_
theorem gwagg3 : ∀ w, (isAgg 3).run Try.prog w = .ok false w := fun _ => by kernel_rfl
theorem gwagg4 : ∀ w, (isAgg 4).run Try.prog w = .ok false w := fun _ => by kernel_rfl
theorem gwagg74 : ∀ w, (isAgg 74).run Try.prog w = .ok false w := fun _ => by kernel_rfl
theorem gwfld76_0 (g off : Nat) : ∀ w, (Instr.fieldAt 76 (.pointer (some ⟨g, off, none⟩)) 0).run Try.prog w = .ok (.pointer (some ⟨g, off + 0, none⟩)) w := fun _ => by kernel_rfl
theorem gwfld76_3 (g off : Nat) : ∀ w, (Instr.fieldAt 76 (.pointer (some ⟨g, off, none⟩)) 3).run Try.prog w = .ok (.pointer (some ⟨g, off + 3, none⟩)) w := fun _ => by kernel_rfl
theorem gwfld76_4 (g off : Nat) : ∀ w, (Instr.fieldAt 76 (.pointer (some ⟨g, off, none⟩)) 4).run Try.prog w = .ok (.pointer (some ⟨g, off + 4, none⟩)) w := fun _ => by kernel_rfl
theorem gwsiz3 : ∀ w, (sizeOf 3).run Try.prog w = .ok 1 w := fun _ => by kernel_rfl
theorem gwsiz4 : ∀ w, (sizeOf 4).run Try.prog w = .ok 1 w := fun _ => by kernel_rfl
theorem gwzer78 : ∀ w, (zeroValue 78).run Try.prog w = .ok (.pointer none) w := fun _ => by kernel_rfl
set_option maxHeartbeats 4000000 in
set_option maxRecDepth 100000 in
theorem named_calls (s : ByteArray) (w : World) :
    Calls Try.prog 39 #[.string s] w fun e w' => e = .returned (.bool (namedB s)) ∧ Below w.heap.size w w' := by
 refine gw_start (N := 11) (vs := [.string s]) Try.func39 rfl rfl (by simp) fun a HF HO => ?_
 replace HO : Own w w [] := HO
 refine gw_seq fun K1 hK1 => ?_
 refine wp_region_lit ?_
 refine V HF (op_assign rfl (ev_c _ _)) ?_
 intro _ H3; clear HF
 refine wpList_nil ?_
 refine gw_nx (hK1 _ _ ?_)
 refine gw_seq fun K4 hK4 => ?_
 refine wp_region_lit ?_
 refine V H3 (op_move rfl (H3.ev rfl)) ?_
 intro _ H6; clear H3
 refine V H6 (op_lens Try.underlying9 rfl (H6.ev rfl)) ?_
 intro _ H8; clear H6
 refine V H8 (op_geq rfl (H8.ev rfl) (ev_c _ _)) ?_
 intro _ H10; clear H8
 refine V H10 (op_move rfl (H10.ev rfl)) ?_
 intro _ H12; clear H10
 refine gw_evG H12 rfl rfl rfl rfl (on_t _) rfl (by decide) (fun h_ => (op_move rfl (H12.ev rfl))) ?_
 intro _ H14; clear H12
 refine gw_evG H14 rfl rfl rfl rfl (on_t _) rfl (by decide) (fun h_ => (op_lens Try.underlying9 rfl (ev_gv (H14.ev rfl) h_))) ?_
 intro _ H16; clear H14
 refine gw_evG H16 rfl rfl rfl rfl (on_t _) rfl (by decide) (fun h_ => (op_leq rfl (ev_gv (H16.ev rfl) h_) (ev_c _ _))) ?_
 intro _ H18; clear H16
 refine V H18 (op_pick_and rfl (H18.ev rfl) (fun hp_ => (ev_gv (H18.ev rfl) hp_)) (ev_c _ _)) ?_
 intro _ H20; clear H18
 refine V H20 (op_assign rfl (H20.ev rfl)) ?_
 intro _ H22; clear H20
 refine wpList_nil ?_
 refine gw_nx (hK4 _ _ ?_)
 refine wp_ret ?_
 refine gw_ret1 H22 rfl rfl ?_
 exact ⟨by rw [named_i], HO.below⟩
set_option maxHeartbeats 4000000 in
set_option maxRecDepth 100000 in
theorem new_own (w0 w : World) (R : Chunk) (room : Int) (HO : Own w0 w [R]) :
    Calls Try.prog 11 #[.int .i64 room] w fun e w' => ∃ gd S, e = .returned (.pointer (some ⟨gd, 0, none⟩)) ∧ Own w0 w' [R, Chunk.disk w0.heap.size gd S (newD room)] := by
 refine gw_startO (N := 8) (vs := [J room]) Try.func11 rfl rfl (by simp) fun a HF => ?_
 refine gw_seq fun K1 hK1 => ?_
 refine wp_region_lit ?_
 refine V HF (op_assign rfl (ev_c _ _)) ?_
 intro _ H3; clear HF
 refine wpList_nil ?_
 refine gw_nx (hK1 _ _ ?_)
 refine gw_seq fun K4 hK4 => ?_
 refine wp_region_lit ?_
 refine gw_mkmap (K := 9) H3 HO (want_none rfl) rfl (by decide) rfl ?_
 intro g5 _ w7 H8 O9; clear H3 HO
 have O10 : Own w0 w7 [Chunk.lmap Try.prog 9 g5 ([] : List (Lit × Value)), R] := O9
 clear O9
 refine V H8 (op_move rfl (H8.ev rfl)) ?_
 intro _ H12; clear H8
 refine V H12 (op_max rfl (H12.ev rfl) (ev_c _ _)) ?_
 intro _ H14; clear H12
 refine V H14 (op_build (cells := #[.map (some g5), J (mx room 0), J 0, J 0, .bool false]) rfl (pt_cons (H14.ev rfl) (pt_cons (H14.ev rfl) pt_nil)) (by kernel_rfl)) ?_
 intro _ H16; clear H14
 refine gw_new H16 O10 (want_none rfl) rfl (by decide) (op_box rfl (H16.ev rfl)) ?_
 intro g17 _ w19 H20 O21; clear H16 O10
 have O22 : Own w0 w19 [Bk g17 [.map (some g5), J (mx room 0), J 0, J 0, .bool false] 76, Chunk.lmap Try.prog 9 g5 ([] : List (Lit × Value)), R] := O21
 clear O21
 refine V H20 (op_assign rfl (H20.ev rfl)) ?_
 intro _ H24; clear H20
 refine wpList_nil ?_
 refine gw_nx (hK4 _ _ ?_)
 refine wp_ret ?_
 refine gw_ret1 H24 rfl rfl ?_
 have HOf := Own.files_nil O22 w0.heap.size
 obtain ⟨S', HOd⟩ := disk_close2 (R := R) (base := w0.heap.size) (gd := g17) (gm := g5) (d := newD room) (xs := []) rfl (by exact HOf.sel [3, 1, 2, 0] (by decide))
 exact ⟨_, S', rfl, HOd⟩
set_option maxHeartbeats 4000000 in
set_option maxRecDepth 100000 in
theorem step_calls (w0 w : World) (R : Chunk) (gd gm : Nat) (d : PD) (fid : Nat) (fn0 : Func) (cap : List Value) (Q : World → Prop) (h1 : Try.prog.funcs[fid]? = some fn0) (h2 : (fn0.name == "runtime.NumGoroutine") = false) (h3 : fn0.body.isSome = true) (hfu : 0 ≤ d.fuse ∧ d.fuse ≤ 9223372036854775807) (hdo : d.fuse ≠ 1 → ∀ w1, Own w0 w1 [R, Chunk.blk gd (.cells (dcells gm { d with fuse := decF d.fuse }) 76 (0, 0))] → Calls Try.prog fid cap.toArray w1 fun e w2 => e = .returned (.tuple #[]) ∧ Q w2) (HO : Own w0 w [R, Bk gd [.map (some gm), .int .i64 d.most, .int .i64 d.used, .int .i64 d.fuse, .bool d.down] 76]) :
    Calls Try.prog 40 #[.pointer (some ⟨gd, 0, none⟩), .func (.func fid) #[] cap.toArray] w fun e w' => (d.fuse = 1 ∧ e = .returned (.int .i64 70) ∧ Own w0 w' [R, Chunk.blk gd (.cells (dcells gm { d with fuse := 0, down := true }) 76 (0, 0))]) ∨ (d.fuse ≠ 1 ∧ e = .returned (.int .i64 0) ∧ Q w') := by
 refine gw_startO (N := 27) (vs := [.pointer (some ⟨gd, 0, none⟩), .func (.func fid) #[] cap.toArray]) Try.func40 rfl rfl (by simp) fun a HF => ?_
 refine gw_seq fun K1 hK1 => ?_
 refine wp_region_lit ?_
 refine V HF (op_assign rfl (ev_c _ _)) ?_
 intro _ H3; clear HF
 refine wpList_nil ?_
 refine gw_nx (hK1 _ _ ?_)
 refine gw_seq fun K4 hK4 => ?_
 refine gw_seq fun K5 hK5 => ?_
 refine wp_region_lit ?_
 refine V H3 (op_move rfl (H3.ev rfl)) ?_
 intro _ H7; clear H3
 refine V H7 (op_nil rfl (H7.ev rfl)) ?_
 intro _ H9; clear H7
 refine V H9 (op_field (gwfld76_3 _ _) rfl (H9.ev rfl)) ?_
 intro _ H11; clear H9
 refine V H11 (op_load1 gwagg3 rfl (H11.ev rfl) (blk_at (HO.get 1 rfl) rfl)) ?_
 intro _ H13; clear H11
 refine V H13 (op_gtr rfl (H13.ev rfl) (ev_c _ _)) ?_
 intro _ H15; clear H13
 refine wpList_nil ?_
 refine gw_nx (hK5 _ _ ?_)
 refine gw_cond H15 rfl (fun hb16 => ?_) (fun hb16 => ?_)
 ·
  have H17 := H15.subst_ (d := 9) (b := true) rfl hb16
  clear H15
  (try simp only [decide_eq_true_eq] at hb16)
  refine gw_seq fun K18 hK18 => ?_
  refine wp_region_lit ?_
  refine V H17 (op_move rfl (H17.ev rfl)) ?_
  intro _ H20; clear H17
  refine V H20 (op_nil rfl (H20.ev rfl)) ?_
  intro _ H22; clear H20
  refine V H22 (op_field (gwfld76_3 _ _) rfl (H22.ev rfl)) ?_
  intro _ H24; clear H22
  refine V H24 (op_load1 gwagg3 rfl (H24.ev rfl) (blk_at (HO.get 1 rfl) rfl)) ?_
  intro _ H26; clear H24
  refine V H26 (op_sub rfl (H26.ev rfl) (ev_c _ _) (by omega)) ?_
  intro _ H28; clear H26
  refine V H28 (op_nil rfl (H28.ev rfl)) ?_
  intro _ H30; clear H28
  refine V H30 (op_field (gwfld76_3 _ _) rfl (H30.ev rfl)) ?_
  intro _ H32; clear H30
  refine gw_set 1 H32 HO rfl (want_none rfl) rfl (op_store1 gwsiz3 rfl (H32.ev rfl) (H32.ev rfl) rfl (blk_at (HO.get 1 rfl) rfl) (blkf (HO.get 1 rfl))) ?_
  intro _ w35 H34 O36; clear H32 HO
  have O37 : Own w0 w35 [R, Bk gd [.map (some gm), J d.most, J d.used, J (d.fuse - 1), .bool d.down] 76] := O36
  clear O36
  refine wpList_nil ?_
  refine gw_nx (hK18 _ _ ?_)
  refine gw_seq fun K38 hK38 => ?_
  refine wp_region_lit ?_
  refine V H34 (op_move rfl (H34.ev rfl)) ?_
  intro _ H40; clear H34
  refine V H40 (op_nil rfl (H40.ev rfl)) ?_
  intro _ H42; clear H40
  refine V H42 (op_field (gwfld76_3 _ _) rfl (H42.ev rfl)) ?_
  intro _ H44; clear H42
  refine V H44 (op_load1 gwagg3 rfl (H44.ev rfl) (blk_at (O37.get 1 rfl) rfl)) ?_
  intro _ H46; clear H44
  refine V H46 (op_eqi rfl (H46.ev rfl) (ev_c _ _)) ?_
  intro _ H48; clear H46
  refine wpList_nil ?_
  refine gw_nx (hK38 _ _ ?_)
  refine gw_cond H48 rfl (fun hb49 => ?_) (fun hb49 => ?_)
  ·
   have H50 := H48.subst_ (d := 21) (b := true) rfl hb49
   clear H48
   (try simp only [decide_eq_true_eq] at hb49)
   refine gw_seq fun K51 hK51 => ?_
   refine wp_region_lit ?_
   refine V H50 (op_move rfl (H50.ev rfl)) ?_
   intro _ H53; clear H50
   refine V H53 (op_nil rfl (H53.ev rfl)) ?_
   intro _ H55; clear H53
   refine V H55 (op_field (gwfld76_4 _ _) rfl (H55.ev rfl)) ?_
   intro _ H57; clear H55
   refine gw_set 1 H57 O37 rfl (want_none rfl) rfl (op_store1 gwsiz4 rfl (H57.ev rfl) (ev_c _ _) rfl (blk_at (O37.get 1 rfl) rfl) (blkf (O37.get 1 rfl))) ?_
   intro _ w60 H59 O61; clear H57 O37
   have O62 : Own w0 w60 [R, Bk gd [.map (some gm), J d.most, J d.used, J (d.fuse - 1), .bool true] 76] := O61
   clear O61
   refine wpList_nil ?_
   refine gw_nx (hK51 _ _ ?_)
   refine gw_seq fun K63 hK63 => ?_
   refine wp_region_lit ?_
   refine V H59 (op_assign rfl (ev_c _ _)) ?_
   intro _ H65; clear H59
   refine wpList_nil ?_
   refine gw_nx (hK63 _ _ ?_)
   refine wp_ret ?_
   refine gw_thr ?_
   refine gw_ret1 H65 rfl rfl ?_
   have e_ : d.fuse - 1 = 0 := by omega
   exact .inl ⟨by omega, rfl, by rw [e_] at O62; exact O62.sel [0, 1] (by decide)⟩
  ·
   have H66 := H48.subst_ (d := 21) (b := false) rfl hb49
   clear H48
   (try simp only [decide_eq_false_iff_not] at hb49)
   refine wp_skip ?_
   refine gw_nx (hK4 _ _ ?_)
   refine gw_seq fun K67 hK67 => ?_
   refine wp_region_lit ?_
   refine V H66 (op_move rfl (H66.ev rfl)) ?_
   intro _ H69; clear H66
   refine gw_call H69 (want_none rfl) rfl (by decide) (op_callV h1 h2 h3 rfl (H69.ev rfl) ar_nil) (hdo (by omega) _ (by rw [show decF d.fuse = d.fuse - 1 by (unfold decF; split <;> omega)]; exact O37.sel [0, 1] (by decide))) ?_
   rintro _ w71 ⟨rfl, hq⟩
   refine ⟨_, rfl, fun _ H74 => ?_⟩
   clear H69 O37
   refine wpList_nil ?_
   refine gw_nx (hK67 _ _ ?_)
   refine gw_seq fun K76 hK76 => ?_
   refine wp_region_lit ?_
   refine V H74 (op_assign rfl (ev_c _ _)) ?_
   intro _ H78; clear H74
   refine wpList_nil ?_
   refine gw_nx (hK76 _ _ ?_)
   refine wp_ret ?_
   refine gw_ret1 H78 rfl rfl ?_
   exact .inr ⟨by omega, rfl, hq⟩
 ·
  have H79 := H15.subst_ (d := 9) (b := false) rfl hb16
  clear H15
  (try simp only [decide_eq_false_iff_not, Int.not_lt] at hb16)
  refine wp_skip ?_
  refine gw_nx (hK4 _ _ ?_)
  refine gw_seq fun K80 hK80 => ?_
  refine wp_region_lit ?_
  refine V H79 (op_move rfl (H79.ev rfl)) ?_
  intro _ H82; clear H79
  refine gw_call H82 (want_none rfl) rfl (by decide) (op_callV h1 h2 h3 rfl (H82.ev rfl) ar_nil) (hdo (by omega) _ (by rw [show decF d.fuse = d.fuse by (unfold decF; split <;> omega)]; exact HO.sel [0, 1] (by decide))) ?_
  rintro _ w84 ⟨rfl, hq⟩
  refine ⟨_, rfl, fun _ H87 => ?_⟩
  clear H82 HO
  refine wpList_nil ?_
  refine gw_nx (hK80 _ _ ?_)
  refine gw_seq fun K89 hK89 => ?_
  refine wp_region_lit ?_
  refine V H87 (op_assign rfl (ev_c _ _)) ?_
  intro _ H91; clear H87
  refine wpList_nil ?_
  refine gw_nx (hK89 _ _ ?_)
  refine wp_ret ?_
  refine gw_ret1 H91 rfl rfl ?_
  exact .inr ⟨by omega, rfl, hq⟩
set_option maxHeartbeats 4000000 in
set_option maxRecDepth 100000 in
theorem find_down (gd gm : Nat) (d : PD) (nm : ByteArray) (M : List (Lit × Value)) (w : World) (hD : w.heap[gd]? = some (.cells (dcells gm d) 76 (0, 0))) (hL : (Chunk.lmap Try.prog 9 gm M).P w) (hdn : d.down = true) (hn : nm.size ≤ 9223372036854775807) :
    Calls Try.prog 42 #[.pointer (some ⟨gd, 0, none⟩), .string nm] w fun e w' => e = .returned (.tuple #[.pointer none, .int .i64 70]) ∧ Below w.heap.size w w' := by
 refine gw_start (N := 20) (vs := [.pointer (some ⟨gd, 0, none⟩), .string nm]) Try.func42 rfl rfl (by simp) fun a HF HO => ?_
 replace HO : Own w w [] := HO
 refine gw_seq fun K1 hK1 => ?_
 refine wp_region_lit ?_
 refine V HF (op_assign rfl (ev_c _ _)) ?_
 intro _ H3; clear HF
 refine V H3 (op_assign rfl (ev_c _ _)) ?_
 intro _ H5; clear H3
 refine wpList_nil ?_
 refine gw_nx (hK1 _ _ ?_)
 refine gw_seq fun K6 hK6 => ?_
 refine gw_seq fun K7 hK7 => ?_
 refine wp_region_lit ?_
 refine V H5 (op_move rfl (H5.ev rfl)) ?_
 intro _ H9; clear H5
 refine V H9 (op_nil rfl (H9.ev rfl)) ?_
 intro _ H11; clear H9
 refine V H11 (op_field (gwfld76_4 _ _) rfl (H11.ev rfl)) ?_
 intro _ H13; clear H11
 refine V H13 (op_load1 gwagg4 rfl (H13.ev rfl) (blk_at (argblk HO hD) rfl)) ?_
 intro _ H15; clear H13
 have H16 := H15.lit (b := true) (hdn)
 clear H15
 refine wpList_nil ?_
 refine gw_nx (hK7 _ _ ?_)
 refine gw_cond H16 rfl (fun hb17 => ?_) (fun hb17 => ?_)
 rotate_left
 ·
  cases hb17
 refine gw_seq fun K18 hK18 => ?_
 refine wp_region_lit ?_
 refine V H16 (op_assign rfl (ev_c _ _)) ?_
 intro _ H20; clear H16
 refine V H20 (op_assign rfl (ev_c _ _)) ?_
 intro _ H22; clear H20
 refine wpList_nil ?_
 refine gw_nx (hK18 _ _ ?_)
 refine wp_ret ?_
 refine gw_thr ?_
 refine gw_ret2 H22 rfl rfl rfl ?_
 exact ⟨rfl, HO.below⟩
set_option maxHeartbeats 4000000 in
set_option maxRecDepth 100000 in
theorem find_none (gd gm : Nat) (d : PD) (nm : ByteArray) (M : List (Lit × Value)) (w : World) (hD : w.heap[gd]? = some (.cells (dcells gm d) 76 (0, 0))) (hL : (Chunk.lmap Try.prog 9 gm M).P w) (hdn : d.down = false) (hl : lfind (litS nm) M = none) (hn : nm.size ≤ 9223372036854775807) :
    Calls Try.prog 42 #[.pointer (some ⟨gd, 0, none⟩), .string nm] w fun e w' => e = .returned (.tuple #[.pointer none, .int .i64 4]) ∧ Below w.heap.size w w' := by
 refine gw_start (N := 20) (vs := [.pointer (some ⟨gd, 0, none⟩), .string nm]) Try.func42 rfl rfl (by simp) fun a HF HO => ?_
 replace HO : Own w w [] := HO
 refine gw_seq fun K1 hK1 => ?_
 refine wp_region_lit ?_
 refine V HF (op_assign rfl (ev_c _ _)) ?_
 intro _ H3; clear HF
 refine V H3 (op_assign rfl (ev_c _ _)) ?_
 intro _ H5; clear H3
 refine wpList_nil ?_
 refine gw_nx (hK1 _ _ ?_)
 refine gw_seq fun K6 hK6 => ?_
 refine gw_seq fun K7 hK7 => ?_
 refine wp_region_lit ?_
 refine V H5 (op_move rfl (H5.ev rfl)) ?_
 intro _ H9; clear H5
 refine V H9 (op_nil rfl (H9.ev rfl)) ?_
 intro _ H11; clear H9
 refine V H11 (op_field (gwfld76_4 _ _) rfl (H11.ev rfl)) ?_
 intro _ H13; clear H11
 refine V H13 (op_load1 gwagg4 rfl (H13.ev rfl) (blk_at (argblk HO hD) rfl)) ?_
 intro _ H15; clear H13
 have H16 := H15.lit (b := false) (hdn)
 clear H15
 refine wpList_nil ?_
 refine gw_nx (hK7 _ _ ?_)
 refine gw_cond H16 rfl (fun hb17 => ?_) (fun hb17 => ?_)
 skip
 ·
  cases hb17
 refine wp_skip ?_
 refine gw_nx (hK6 _ _ ?_)
 refine gw_seq fun K18 hK18 => ?_
 refine wp_region_lit ?_
 refine V H16 (op_move rfl (H16.ev rfl)) ?_
 intro _ H20; clear H16
 refine V H20 (op_nil rfl (H20.ev rfl)) ?_
 intro _ H22; clear H20
 refine V H22 (op_field (gwfld76_0 _ _) rfl (H22.ev rfl)) ?_
 intro _ H24; clear H22
 refine V H24 (op_load1 gwagg74 rfl (H24.ev rfl) (blk_at (argblk HO hD) rfl)) ?_
 intro _ H26; clear H24
 refine V H26 (op_move rfl (H26.ev rfl)) ?_
 intro _ H28; clear H26
 refine V H28 (op_ml_none strKey Try.underlying74 gwzer78 rfl (H28.ev rfl) (H28.ev rfl) (keyS (by omega)) (lmap_arg HO hL) (hl)) ?_
 intro _ H30; clear H28
 refine V H30 (op_assign rfl (H30.ev rfl)) ?_
 intro _ H32; clear H30
 refine wpList_nil ?_
 refine gw_nx (hK18 _ _ ?_)
 refine gw_seq fun K33 hK33 => ?_
 refine gw_seq fun K34 hK34 => ?_
 refine wp_region_lit ?_
 refine V H32 (op_move rfl (H32.ev rfl)) ?_
 intro _ H36; clear H32
 refine V H36 (op_eqp_nils Try.underlying78 rfl (H36.ev rfl)) ?_
 intro _ H38; clear H36
 refine wpList_nil ?_
 refine gw_nx (hK34 _ _ ?_)
 refine gw_cond H38 rfl (fun hb39 => ?_) (fun hb39 => ?_)
 rotate_left
 ·
  cases hb39
 refine gw_seq fun K40 hK40 => ?_
 refine wp_region_lit ?_
 refine V H38 (op_assign rfl (ev_c _ _)) ?_
 intro _ H42; clear H38
 refine V H42 (op_assign rfl (ev_c _ _)) ?_
 intro _ H44; clear H42
 refine wpList_nil ?_
 refine gw_nx (hK40 _ _ ?_)
 refine wp_ret ?_
 refine gw_thr ?_
 refine gw_ret2 H44 rfl rfl rfl ?_
 exact ⟨rfl, HO.below⟩
set_option maxHeartbeats 4000000 in
set_option maxRecDepth 100000 in
theorem find_some (gd gm : Nat) (d : PD) (nm : ByteArray) (M : List (Lit × Value)) (g : Nat) (w : World) (hD : w.heap[gd]? = some (.cells (dcells gm d) 76 (0, 0))) (hL : (Chunk.lmap Try.prog 9 gm M).P w) (hdn : d.down = false) (hl : lfind (litS nm) M = some (.pointer (some ⟨g, 0, none⟩))) (hn : nm.size ≤ 9223372036854775807) :
    Calls Try.prog 42 #[.pointer (some ⟨gd, 0, none⟩), .string nm] w fun e w' => e = .returned (.tuple #[.pointer (some ⟨g, 0, none⟩), .int .i64 0]) ∧ Below w.heap.size w w' := by
 refine gw_start (N := 20) (vs := [.pointer (some ⟨gd, 0, none⟩), .string nm]) Try.func42 rfl rfl (by simp) fun a HF HO => ?_
 replace HO : Own w w [] := HO
 refine gw_seq fun K1 hK1 => ?_
 refine wp_region_lit ?_
 refine V HF (op_assign rfl (ev_c _ _)) ?_
 intro _ H3; clear HF
 refine V H3 (op_assign rfl (ev_c _ _)) ?_
 intro _ H5; clear H3
 refine wpList_nil ?_
 refine gw_nx (hK1 _ _ ?_)
 refine gw_seq fun K6 hK6 => ?_
 refine gw_seq fun K7 hK7 => ?_
 refine wp_region_lit ?_
 refine V H5 (op_move rfl (H5.ev rfl)) ?_
 intro _ H9; clear H5
 refine V H9 (op_nil rfl (H9.ev rfl)) ?_
 intro _ H11; clear H9
 refine V H11 (op_field (gwfld76_4 _ _) rfl (H11.ev rfl)) ?_
 intro _ H13; clear H11
 refine V H13 (op_load1 gwagg4 rfl (H13.ev rfl) (blk_at (argblk HO hD) rfl)) ?_
 intro _ H15; clear H13
 have H16 := H15.lit (b := false) (hdn)
 clear H15
 refine wpList_nil ?_
 refine gw_nx (hK7 _ _ ?_)
 refine gw_cond H16 rfl (fun hb17 => ?_) (fun hb17 => ?_)
 skip
 ·
  cases hb17
 refine wp_skip ?_
 refine gw_nx (hK6 _ _ ?_)
 refine gw_seq fun K18 hK18 => ?_
 refine wp_region_lit ?_
 refine V H16 (op_move rfl (H16.ev rfl)) ?_
 intro _ H20; clear H16
 refine V H20 (op_nil rfl (H20.ev rfl)) ?_
 intro _ H22; clear H20
 refine V H22 (op_field (gwfld76_0 _ _) rfl (H22.ev rfl)) ?_
 intro _ H24; clear H22
 refine V H24 (op_load1 gwagg74 rfl (H24.ev rfl) (blk_at (argblk HO hD) rfl)) ?_
 intro _ H26; clear H24
 refine V H26 (op_move rfl (H26.ev rfl)) ?_
 intro _ H28; clear H26
 refine V H28 (op_ml_some strKey Try.underlying74 gwzer78 rfl (H28.ev rfl) (H28.ev rfl) (keyS (by omega)) (lmap_arg HO hL) (hl)) ?_
 intro _ H30; clear H28
 refine V H30 (op_assign rfl (H30.ev rfl)) ?_
 intro _ H32; clear H30
 refine wpList_nil ?_
 refine gw_nx (hK18 _ _ ?_)
 refine gw_seq fun K33 hK33 => ?_
 refine gw_seq fun K34 hK34 => ?_
 refine wp_region_lit ?_
 refine V H32 (op_move rfl (H32.ev rfl)) ?_
 intro _ H36; clear H32
 refine V H36 (op_eqp_nil Try.underlying78 rfl (H36.ev rfl)) ?_
 intro _ H38; clear H36
 refine wpList_nil ?_
 refine gw_nx (hK34 _ _ ?_)
 refine gw_cond H38 rfl (fun hb39 => ?_) (fun hb39 => ?_)
 skip
 ·
  cases hb39
 refine wp_skip ?_
 refine gw_nx (hK33 _ _ ?_)
 refine gw_seq fun K40 hK40 => ?_
 refine wp_region_lit ?_
 refine V H38 (op_move rfl (H38.ev rfl)) ?_
 intro _ H42; clear H38
 refine V H42 (op_assign rfl (H42.ev rfl)) ?_
 intro _ H44; clear H42
 refine V H44 (op_assign rfl (ev_c _ _)) ?_
 intro _ H46; clear H44
 refine wpList_nil ?_
 refine gw_nx (hK40 _ _ ?_)
 refine wp_ret ?_
 refine gw_ret2 H46 rfl rfl rfl ?_
 exact ⟨rfl, HO.below⟩
end GVfs0_
export GVfs0_ (named_calls new_own step_calls find_down find_none find_some)
end Go.Proofs.Ytkdahjnmldeklaa.PA
end
section
namespace Go.Proofs.Ytkdahjnmldeklaa.PA
open Go.RowKit Go.Proofs.YtkdahjnmldeklaaW.PrintWords Go.Proofs.YtkdahjnmldeklaaW.PrintLast Go.Proofs.YtkdahjnmldeklaaW.PrintMore
set_option linter.unusedVariables false
set_option linter.unusedSimpArgs false
namespace GVfs1_
theorem gwagg23 : ∀ w, (isAgg 23).run Try.prog w = .ok false w := fun _ => by kernel_rfl
theorem gwagg4 : ∀ w, (isAgg 4).run Try.prog w = .ok false w := fun _ => by kernel_rfl
theorem gwagg74 : ∀ w, (isAgg 74).run Try.prog w = .ok false w := fun _ => by kernel_rfl
theorem gwagg9 : ∀ w, (isAgg 9).run Try.prog w = .ok false w := fun _ => by kernel_rfl
theorem gwfld76_0 (g off : Nat) : ∀ w, (Instr.fieldAt 76 (.pointer (some ⟨g, off, none⟩)) 0).run Try.prog w = .ok (.pointer (some ⟨g, off + 0, none⟩)) w := fun _ => by kernel_rfl
theorem gwfld76_4 (g off : Nat) : ∀ w, (Instr.fieldAt 76 (.pointer (some ⟨g, off, none⟩)) 4).run Try.prog w = .ok (.pointer (some ⟨g, off + 4, none⟩)) w := fun _ => by kernel_rfl
theorem gwzer78 : ∀ w, (zeroValue 78).run Try.prog w = .ok (.pointer none) w := fun _ => by kernel_rfl
set_option maxHeartbeats 4000000 in
set_option maxRecDepth 100000 in
theorem create1 (w0 w : World) (R : Chunk) (gd gm : Nat) (d : PD) (xs : List XF) (nm : ByteArray) (bd bn : Nat) (hn : nm.size ≤ 9223372036854775807) (hl : xs.length < 9223372036854775807) (HO : Own w0 w [R, Bk gd [.map (some gm), .int .i64 d.most, .int .i64 d.used, .int .i64 d.fuse, .bool d.down] 76, Chunk.lmap Try.prog 9 gm (xs.map XF.ent), Bk bd [.pointer (some ⟨gd, 0, none⟩)] 23, Bk bn [.string nm] 9]) :
    Calls Try.prog 41 #[.pointer (some ⟨bd, 0, none⟩), .pointer (some ⟨bn, 0, none⟩)] w fun e w' => e = .returned (.tuple #[]) ∧ ∃ g : Nat, Own w0 w' [R, Chunk.blk g (.cells #[.slice none 0 0, .int .i64 0] 81 (0, 0)), Chunk.blk gd (.cells (dcells gm d) 76 (0, 0)), Chunk.lmap Try.prog 9 gm (lput (litS nm) (.pointer (some ⟨g, 0, none⟩)) (xs.map XF.ent))] := by
 refine gw_startO (N := 9) (vs := [.pointer (some ⟨bd, 0, none⟩), .pointer (some ⟨bn, 0, none⟩)]) Try.func41 rfl rfl (by simp) fun a HF => ?_
 refine gx_draw (M := [R, Bk gd [.map (some gm), J d.most, J d.used, J d.fuse, .bool d.down] 76, Chunk.lmap Try.prog 9 gm (xs.map XF.ent), Bk bd [.pointer (some ⟨gd, 0, none⟩)] 23, Bk bn [.string nm] 9]) (fun j_ => j_ == 7) HO (by kernel_rfl) fun w1 O2 => ?_
 clear HO
 refine gx_take 0 rfl (by kernel_rfl) HF (by exact O2.sel [0, 1, 2, 3, 4] (by decide)) (want_none rfl) rfl (by decide) (fun wq HO => (op_load1 gwagg23 rfl (HF.ev rfl) (blk_at (HO.get 3 rfl) rfl))) ?_
 intro _ H4; clear HF
 refine gx_take 1 rfl (by kernel_rfl) H4 (by exact O2.sel [0, 1, 2, 3, 4] (by decide)) (want_none rfl) rfl (by decide) (fun wq HO => (op_nil rfl (H4.ev rfl))) ?_
 intro _ H6; clear H4
 refine gx_take 2 rfl (by kernel_rfl) H6 (by exact O2.sel [0, 1, 2, 3, 4] (by decide)) (want_none rfl) rfl (by decide) (fun wq HO => (op_field (gwfld76_0 _ _) rfl (H6.ev rfl))) ?_
 intro _ H8; clear H6
 refine gx_take 3 rfl (by kernel_rfl) H8 (by exact O2.sel [0, 1, 2, 3, 4] (by decide)) (want_none rfl) rfl (by decide) (fun wq HO => (op_load1 gwagg74 rfl (H8.ev rfl) (blk_at (HO.get 1 rfl) rfl))) ?_
 intro _ H10; clear H8
 refine gx_take 4 rfl (by kernel_rfl) H10 (by exact O2.sel [0, 1, 2, 3, 4] (by decide)) (want_none rfl) rfl (by decide) (fun wq HO => (op_load1 gwagg9 rfl (H10.ev rfl) (blk_at (HO.get 4 rfl) rfl))) ?_
 intro _ H12; clear H10
 refine gx_take 5 rfl (by kernel_rfl) H12 (by exact O2.sel [0, 1, 2, 3, 4] (by decide)) (want_none rfl) rfl (by decide) (fun wq HO => (op_build (cells := #[.slice none 0 0, J 0]) rfl pt_nil (by kernel_rfl))) ?_
 intro _ H14; clear H12
 refine gx_step 6 rfl (by kernel_rfl) ?_
 refine gw_new H14 O2 (want_none rfl) rfl (by decide) (op_box rfl (H14.ev rfl)) ?_
 intro g15 _ w17 H18 O19; clear H14 O2
 have O20 : Own w0 w17 [Bk g15 [.slice none 0 0, J 0] 81, R, Bk gd [.map (some gm), J d.most, J d.used, J d.fuse, .bool d.down] 76, Chunk.lmap Try.prog 9 gm (xs.map XF.ent), Bk bd [.pointer (some ⟨gd, 0, none⟩)] 23, Bk bn [.string nm] 9] := O19
 clear O19
 refine gx_on (i := 6) (B := (fun j_ => j_ == 7)) (M := [R, Bk gd [.map (some gm), J d.most, J d.used, J d.fuse, .bool d.down] 76, Chunk.lmap Try.prog 9 gm (xs.map XF.ent), Bk bd [.pointer (some ⟨gd, 0, none⟩)] 23, Bk bn [.string nm] 9]) (fun _ => (by exact O20.sel [1, 2, 3, 4, 5] (by decide))) ?_
 refine gx_step 7 rfl (by kernel_rfl) ?_
 refine gw_mput 3 strKey Try.underlying74 H18 O20 rfl (want_none rfl) rfl rfl (H18.ev rfl) (H18.ev rfl) (H18.ev rfl) (keyS (hn)) (by simpa using hl) ?_
 intro _ w22 H23 O24; clear H18 O20
 have O25 : Own w0 w22 [Bk g15 [.slice none 0 0, J 0] 81, R, Bk gd [.map (some gm), J d.most, J d.used, J d.fuse, .bool d.down] 76, Chunk.lmap Try.prog 9 gm (lput (litS nm) (.pointer (some ⟨g15, 0, none⟩)) (xs.map XF.ent)), Bk bd [.pointer (some ⟨gd, 0, none⟩)] 23, Bk bn [.string nm] 9] := O24
 clear O24
 refine gx_on (i := 7) (B := (fun j_ => j_ == 7)) (M := [R, Bk gd [.map (some gm), J d.most, J d.used, J d.fuse, .bool d.down] 76, Chunk.lmap Try.prog 9 gm (xs.map XF.ent), Bk bd [.pointer (some ⟨gd, 0, none⟩)] 23, Bk bn [.string nm] 9]) (fun h_ => by cases h_) ?_
 refine gx_done (by kernel_rfl) ?_
 refine gw_end0 H23 rfl ?_
 exact ⟨rfl, _, O25.sel [1, 0, 2, 3] (by decide)⟩
set_option maxHeartbeats 4000000 in
set_option maxRecDepth 100000 in
theorem create_calls (w0 w : World) (R : Chunk) (gd : Nat) (S : Nat → Prop) (d : PD) (nm : ByteArray) (hw : wfD d) (hn : nm.size ≤ 9223372036854775807) (hlen : d.fs.length ≤ 1000000) (HO : Own w0 w [R, Chunk.disk w0.heap.size gd S d]) :
    Calls Try.prog 13 #[.pointer (some ⟨gd, 0, none⟩), .string nm] w fun e w' => e = .returned (.int .i64 (createD nm d).2) ∧ ∃ S', Own w0 w' [R, Chunk.disk w0.heap.size gd S' (createD nm d).1] := by
 have hu0 := hw.used
 have hm0 := hw.most
 have hfu := hw.fuse
 obtain ⟨gm, xs, hxs, hon, HO⟩ := disk_open2 HO
 have hxl : xs.length ≤ 1000000 := by rw [← hxs, List.length_map] at hlen; exact hlen
 refine gw_startO (N := 25) (vs := [.pointer (some ⟨gd, 0, none⟩), .string nm]) Try.func13 rfl rfl (by simp) fun a HF => ?_
 rcases look3 nm d hxs hon with hdn | ⟨hdn, hl, hgd, hno⟩ | ⟨hdn, pre, x, post, rfl, hnm, hl, hgd, hoth⟩
 ·
  refine gw_seq fun K1 hK1 => ?_
  refine wp_region_lit ?_
  refine gw_new HF HO (want_none rfl) rfl (by decide) (op_box rfl (HF.ev rfl)) ?_
  intro g2 _ w4 H5 O6; clear HF HO
  have O7 : Own w0 w4 [Bk g2 [.pointer (some ⟨gd, 0, none⟩)] 23, R, Bk gd [.map (some gm), J d.most, J d.used, J d.fuse, .bool d.down] 76, Chunk.lmap Try.prog 9 gm (xs.map XF.ent), Chunk.files w0.heap.size xs] := O6
  clear O6
  refine gw_new H5 O7 (want_none rfl) rfl (by decide) (op_box rfl (H5.ev rfl)) ?_
  intro g8 _ w10 H11 O12; clear H5 O7
  have O13 : Own w0 w10 [Bk g8 [.string nm] 9, Bk g2 [.pointer (some ⟨gd, 0, none⟩)] 23, R, Bk gd [.map (some gm), J d.most, J d.used, J d.fuse, .bool d.down] 76, Chunk.lmap Try.prog 9 gm (xs.map XF.ent), Chunk.files w0.heap.size xs] := O12
  clear O12
  refine V H11 (op_assign rfl (ev_c _ _)) ?_
  intro _ H15; clear H11
  refine wpList_nil ?_
  refine gw_nx (hK1 _ _ ?_)
  refine gw_seq fun K16 hK16 => ?_
  refine wp_block ?_
  refine gw_seq fun K17 hK17 => ?_
  refine wp_region_lit ?_
  refine V H15 (op_load1 gwagg23 rfl (H15.ev rfl) (blk_at (O13.get 1 rfl) rfl)) ?_
  intro _ H19; clear H15
  refine V H19 (op_nil rfl (H19.ev rfl)) ?_
  intro _ H21; clear H19
  refine V H21 (op_field (gwfld76_4 _ _) rfl (H21.ev rfl)) ?_
  intro _ H23; clear H21
  refine V H23 (op_load1 gwagg4 rfl (H23.ev rfl) (blk_at (O13.get 3 rfl) rfl)) ?_
  intro _ H25; clear H23
  have H26 := H25.lit (b := true) (hdn)
  clear H25
  refine V H26 (op_assign rfl (H26.ev rfl)) ?_
  intro _ H28; clear H26
  refine wpList_nil ?_
  refine gw_nx (hK17 _ _ ?_)
  refine gw_cond H28 rfl (fun hb29 => ?_) (fun hb29 => ?_)
  rotate_left
  ·
   cases hb29
  refine gw_seq fun K30 hK30 => ?_
  refine wp_region_lit ?_
  refine V H28 (op_assign rfl (ev_c _ _)) ?_
  intro _ H32; clear H28
  refine wpList_nil ?_
  refine gw_nx (hK30 _ _ ?_)
  refine wp_ret ?_
  refine gw_blr ?_
  refine gw_thr ?_
  refine gw_ret1 H32 rfl rfl ?_
  exact disk_fin (gd := gd) (gm := gm) (d' := d) (xs := xs) (create_down hdn) hxs (by exact O13.sel [2, 3, 4, 5] (by decide))
 ·
  refine gw_seq fun K33 hK33 => ?_
  refine wp_region_lit ?_
  refine gw_new HF HO (want_none rfl) rfl (by decide) (op_box rfl (HF.ev rfl)) ?_
  intro g34 _ w36 H37 O38; clear HF HO
  have O39 : Own w0 w36 [Bk g34 [.pointer (some ⟨gd, 0, none⟩)] 23, R, Bk gd [.map (some gm), J d.most, J d.used, J d.fuse, .bool d.down] 76, Chunk.lmap Try.prog 9 gm (xs.map XF.ent), Chunk.files w0.heap.size xs] := O38
  clear O38
  refine gw_new H37 O39 (want_none rfl) rfl (by decide) (op_box rfl (H37.ev rfl)) ?_
  intro g40 _ w42 H43 O44; clear H37 O39
  have O45 : Own w0 w42 [Bk g40 [.string nm] 9, Bk g34 [.pointer (some ⟨gd, 0, none⟩)] 23, R, Bk gd [.map (some gm), J d.most, J d.used, J d.fuse, .bool d.down] 76, Chunk.lmap Try.prog 9 gm (xs.map XF.ent), Chunk.files w0.heap.size xs] := O44
  clear O44
  refine V H43 (op_assign rfl (ev_c _ _)) ?_
  intro _ H47; clear H43
  refine wpList_nil ?_
  refine gw_nx (hK33 _ _ ?_)
  refine gw_seq fun K48 hK48 => ?_
  refine wp_block ?_
  refine gw_seq fun K49 hK49 => ?_
  refine wp_region_lit ?_
  refine V H47 (op_load1 gwagg23 rfl (H47.ev rfl) (blk_at (O45.get 1 rfl) rfl)) ?_
  intro _ H51; clear H47
  refine V H51 (op_nil rfl (H51.ev rfl)) ?_
  intro _ H53; clear H51
  refine V H53 (op_field (gwfld76_4 _ _) rfl (H53.ev rfl)) ?_
  intro _ H55; clear H53
  refine V H55 (op_load1 gwagg4 rfl (H55.ev rfl) (blk_at (O45.get 3 rfl) rfl)) ?_
  intro _ H57; clear H55
  have H58 := H57.lit (b := false) (hdn)
  clear H57
  refine V H58 (op_assign rfl (H58.ev rfl)) ?_
  intro _ H60; clear H58
  refine wpList_nil ?_
  refine gw_nx (hK49 _ _ ?_)
  refine gw_cond H60 rfl (fun hb61 => ?_) (fun hb61 => ?_)
  skip
  ·
   cases hb61
  refine gw_seq fun K62 hK62 => ?_
  refine wp_region_lit ?_
  refine V H60 (op_load1 gwagg9 rfl (H60.ev rfl) (blk_at (O45.get 0 rfl) rfl)) ?_
  intro _ H64; clear H60
  refine gw_call H64 (want_none rfl) rfl (by decide) (op_callL Try.func39 (by kernel_rfl) rfl rfl (ar_cons (H64.ev rfl) ar_nil)) (named_calls nm _) ?_
  rintro e65 w66 ⟨rfl, hb67⟩
  refine ⟨_, rfl, fun _ H69 => ?_⟩
  have O70 := O45.after hb67
  clear H64 O45 hb67
  refine V H69 (op_not rfl (H69.ev rfl)) ?_
  intro _ H73; clear H69
  refine V H73 (op_assign rfl (H73.ev rfl)) ?_
  intro _ H75; clear H73
  refine wpList_nil ?_
  refine gw_nx (hK62 _ _ ?_)
  refine gw_cond H75 rfl (fun hb76 => ?_) (fun hb76 => ?_)
  ·
   have H77 := H75.subst_ (d := 10) (b := true) rfl hb76
   clear H75
   (try simp only [Bool.and_eq_true, Bool.or_eq_true, Bool.and_eq_false_iff, Bool.or_eq_false_iff, Bool.not_and, Bool.not_or, Bool.not_not, decide_eq_true_eq, decide_eq_false_iff_not, Bool.not_eq_true', Bool.not_eq_false', Bool.not_eq_true, Bool.not_eq_false, ne_eq, Decidable.not_not, Int.not_lt, Int.not_le, not_true_eq_false, not_false_eq_true, bne_iff_ne, beq_iff_eq, bne_eq_false_iff_eq, beq_eq_false_iff_ne] at hb76)
   have hnb : namedB nm = false := by simpa using hb76
   refine gw_seq fun K78 hK78 => ?_
   refine wp_region_lit ?_
   refine V H77 (op_assign rfl (ev_c _ _)) ?_
   intro _ H80; clear H77
   refine wpList_nil ?_
   refine gw_nx (hK78 _ _ ?_)
   refine wp_ret ?_
   refine gw_blr ?_
   refine gw_thr ?_
   refine gw_ret1 H80 rfl rfl ?_
   exact disk_fin (gd := gd) (gm := gm) (d' := d) (xs := xs) (create_bad hdn hnb) hxs (by exact O70.sel [2, 3, 4, 5] (by decide))
  ·
   have H81 := H75.subst_ (d := 10) (b := false) rfl hb76
   clear H75
   (try simp only [Bool.and_eq_true, Bool.or_eq_true, Bool.and_eq_false_iff, Bool.or_eq_false_iff, Bool.not_and, Bool.not_or, Bool.not_not, decide_eq_true_eq, decide_eq_false_iff_not, Bool.not_eq_true', Bool.not_eq_false', Bool.not_eq_true, Bool.not_eq_false, ne_eq, Decidable.not_not, Int.not_lt, Int.not_le, not_true_eq_false, not_false_eq_true, bne_iff_ne, beq_iff_eq, bne_eq_false_iff_eq, beq_eq_false_iff_ne] at hb76)
   have hnb : namedB nm = true := by simpa using hb76
   refine gw_seq fun K82 hK82 => ?_
   refine gw_drawB O70 (by kernel_rfl) (by kernel_rfl) fun w83 O84 => ?_
   clear O70
   refine gq_ev H81 (want_none rfl) rfl (by decide) (fun wq hq => have HO := O84.after hq; (op_load1 gwagg23 rfl (H81.ev rfl) (blk_at (HO.get 1 rfl) rfl))) ?_
   intro _ H86; clear H81
   refine gq_ev H86 (want_none rfl) rfl (by decide) (fun wq hq => have HO := O84.after hq; (op_nil rfl (H86.ev rfl))) ?_
   intro _ H88; clear H86
   refine gq_ev H88 (want_none rfl) rfl (by decide) (fun wq hq => have HO := O84.after hq; (op_field (gwfld76_0 _ _) rfl (H88.ev rfl))) ?_
   intro _ H90; clear H88
   refine gq_ev H90 (want_none rfl) rfl (by decide) (fun wq hq => have HO := O84.after hq; (op_load1 gwagg74 rfl (H90.ev rfl) (blk_at (HO.get 3 rfl) rfl))) ?_
   intro _ H92; clear H90
   refine gq_ev H92 (want_none rfl) rfl (by decide) (fun wq hq => have HO := O84.after hq; (op_load1 gwagg9 rfl (H92.ev rfl) (blk_at (HO.get 0 rfl) rfl))) ?_
   intro _ H94; clear H92
   refine gq_ev H94 (want_none rfl) rfl (by decide) (fun wq hq => have HO := O84.after hq; (op_ml_none strKey Try.underlying74 gwzer78 rfl (H94.ev rfl) (H94.ev rfl) (keyS (hn)) (HO.get 4 rfl) (hl))) ?_
   intro _ H96; clear H94
   refine gq_ev H96 (want_none rfl) rfl (by decide) (fun wq hq => have HO := O84.after hq; (op_nep_nils Try.underlying78 rfl (H96.ev rfl))) ?_
   intro _ H98; clear H96
   refine gq_ev H98 (want_none rfl) rfl (by decide) (fun wq hq => have HO := O84.after hq; (op_assign rfl (H98.ev rfl))) ?_
   intro _ H100; clear H98
   refine wpQuiet_nil ?_
   intro w101 hq
   have O102 := O84.after hq
   clear O84 hq
   refine gw_nx (hK82 _ _ ?_)
   refine gw_cond H100 rfl (fun hb103 => ?_) (fun hb103 => ?_)
   skip
   ·
    cases hb103
   refine wp_skip ?_
   refine gw_blk ?_
   refine gw_nx (hK48 _ _ ?_)
   refine gw_seq fun K104 hK104 => ?_
   refine wp_region_lit ?_
   refine V H100 (op_load1 gwagg23 rfl (H100.ev rfl) (blk_at (O102.get 1 rfl) rfl)) ?_
   intro _ H106; clear H100
   refine V H106 (op_func rfl (ar_cons (H106.ev rfl) (ar_cons (H106.ev rfl) ar_nil))) ?_
   intro _ H108; clear H106
   have O115 : Own w0 _ [(Chunk.all [Bk g40 [.string nm] 9, Bk g34 [.pointer (some ⟨gd, 0, none⟩)] 23, R, Chunk.lmap Try.prog 9 gm (xs.map XF.ent), Chunk.files w0.heap.size xs]), Bk gd [.map (some gm), J d.most, J d.used, J d.fuse, .bool d.down] 76] := Own.bundle (A := [Bk g40 [.string nm] 9, Bk g34 [.pointer (some ⟨gd, 0, none⟩)] 23, R, Chunk.lmap Try.prog 9 gm (xs.map XF.ent), Chunk.files w0.heap.size xs]) (L := [Bk gd [.map (some gm), J d.most, J d.used, J d.fuse, .bool d.down] 76]) (O102.sel [0, 1, 2, 4, 5, 3] (by decide))
   refine gw_call H108 (want_none rfl) rfl (by decide) (op_callL Try.func40 (by kernel_rfl) rfl rfl (ar_cons (H108.ev rfl) (ar_cons (H108.ev rfl) ar_nil))) (step_calls w0 _ (Chunk.all [Bk g40 [.string nm] 9, Bk g34 [.pointer (some ⟨gd, 0, none⟩)] 23, R, Chunk.lmap Try.prog 9 gm (xs.map XF.ent), Chunk.files w0.heap.size xs]) gd gm d 41 _ [.pointer (some ⟨g34, 0, none⟩), .pointer (some ⟨g40, 0, none⟩)] (fun w_ => ∃ g, Own w0 w_ [(Chunk.all [R, Chunk.files w0.heap.size xs]), Bk g [.slice none 0 0, J 0] 81, Bk gd [.map (some gm), J (({ d with fuse := decF d.fuse } : PD).most), J (({ d with fuse := decF d.fuse } : PD).used), J (({ d with fuse := decF d.fuse } : PD).fuse), .bool (({ d with fuse := decF d.fuse } : PD).down)] 76, Chunk.lmap Try.prog 9 gm (lput (litS nm) (.pointer (some ⟨g, 0, none⟩)) (xs.map XF.ent))]) Try.func41 (by kernel_rfl) rfl hfu (fun hf1 w1 h_ => create1 w0 w1 (Chunk.all [R, Chunk.files w0.heap.size xs]) gd gm ({ d with fuse := decF d.fuse } : PD) xs nm g34 g40 hn (by omega) (Own.bundle (A := [R, Chunk.files w0.heap.size xs]) (L := [Bk gd [.map (some gm), J (({ d with fuse := decF d.fuse } : PD).most), J (({ d with fuse := decF d.fuse } : PD).used), J (({ d with fuse := decF d.fuse } : PD).fuse), .bool (({ d with fuse := decF d.fuse } : PD).down)] 76, Chunk.lmap Try.prog 9 gm (xs.map XF.ent), Bk g34 [.pointer (some ⟨gd, 0, none⟩)] 23, Bk g40 [.string nm] 9]) ((Own.unbundle (A := [Bk g40 [.string nm] 9, Bk g34 [.pointer (some ⟨gd, 0, none⟩)] 23, R, Chunk.lmap Try.prog 9 gm (xs.map XF.ent), Chunk.files w0.heap.size xs]) (L := [Bk gd [.map (some gm), J (({ d with fuse := decF d.fuse } : PD).most), J (({ d with fuse := decF d.fuse } : PD).used), J (({ d with fuse := decF d.fuse } : PD).fuse), .bool (({ d with fuse := decF d.fuse } : PD).down)] 76]) (by exact h_)).sel [2, 4, 5, 3, 1, 0] (by decide)))) (by exact O115)) ?_
   rintro e109 w110 (⟨hf1, rfl, hb111⟩ | ⟨hf1, rfl, ⟨g, hb111⟩⟩)
   ·
    refine ⟨_, rfl, fun _ H113 => ?_⟩
    have O114 : Own w0 w110 [Bk g40 [.string nm] 9, Bk g34 [.pointer (some ⟨gd, 0, none⟩)] 23, R, Chunk.lmap Try.prog 9 gm (xs.map XF.ent), Chunk.files w0.heap.size xs, Bk gd [.map (some gm), J d.most, J d.used, J 0, .bool true] 76] := Own.unbundle (A := [Bk g40 [.string nm] 9, Bk g34 [.pointer (some ⟨gd, 0, none⟩)] 23, R, Chunk.lmap Try.prog 9 gm (xs.map XF.ent), Chunk.files w0.heap.size xs]) (L := [Bk gd [.map (some gm), J d.most, J d.used, J 0, .bool true] 76]) (by exact hb111)
    clear O115 hb111
    clear H108 O102
    refine V H113 (op_assign rfl (H113.ev rfl)) ?_
    intro _ H117; clear H113
    refine wpList_nil ?_
    refine gw_nx (hK104 _ _ ?_)
    refine wp_ret ?_
    refine gw_ret1 H117 rfl rfl ?_
    exact disk_fin (gd := gd) (gm := gm) (d' := { d with fuse := 0, down := true }) (xs := xs) ((create_go hdn hnb hgd).trans (step_off hf1)) hxs (by exact O114.sel [2, 5, 3, 4] (by decide))
   ·
    refine ⟨_, rfl, fun _ H113 => ?_⟩
    have O114 : Own w0 w110 [R, Chunk.files w0.heap.size xs, Bk g [.slice none 0 0, J 0] 81, Bk gd [.map (some gm), J (({ d with fuse := decF d.fuse } : PD).most), J (({ d with fuse := decF d.fuse } : PD).used), J (({ d with fuse := decF d.fuse } : PD).fuse), .bool (({ d with fuse := decF d.fuse } : PD).down)] 76, Chunk.lmap Try.prog 9 gm (lput (litS nm) (.pointer (some ⟨g, 0, none⟩)) (xs.map XF.ent))] := Own.unbundle (A := [R, Chunk.files w0.heap.size xs]) (L := [Bk g [.slice none 0 0, J 0] 81, Bk gd [.map (some gm), J (({ d with fuse := decF d.fuse } : PD).most), J (({ d with fuse := decF d.fuse } : PD).used), J (({ d with fuse := decF d.fuse } : PD).fuse), .bool (({ d with fuse := decF d.fuse } : PD).down)] 76, Chunk.lmap Try.prog 9 gm (lput (litS nm) (.pointer (some ⟨g, 0, none⟩)) (xs.map XF.ent))]) hb111
    clear O115 hb111
    clear H108 O102
    refine V H113 (op_assign rfl (H113.ev rfl)) ?_
    intro _ H119; clear H113
    refine wpList_nil ?_
    refine gw_nx (hK104 _ _ ?_)
    refine wp_ret ?_
    refine gw_ret1 H119 rfl rfl ?_
    have O120 := Own.file_close (x := (⟨⟨nm, [], 0⟩, g, none, 0, fun _ => False⟩ : XF)) (pre := []) (post := xs) (by exact (O114.row_nil (Kd.int .u8) 5 w0.heap.size).sel [3, 0, 2, 1, 4, 5] (by decide))
    have O121 := Own.files_perm (ys := insX (⟨⟨nm, [], 0⟩, g, none, 0, fun _ => False⟩ : XF) xs) O120 (insX_perm _ _).symm
    have el_ : lput (litS nm) (.pointer (some ⟨g, 0, none⟩)) (xs.map XF.ent) = (insX (⟨⟨nm, [], 0⟩, g, none, 0, fun _ => False⟩ : XF) xs).map XF.ent := by rw [insX_ent]; unfold lput; rw [← delX_ent, delX_none hno]; rfl
    rw [el_] at O121
    exact disk_fin (gd := gd) (gm := gm) (d' := _) (xs := insX (⟨⟨nm, [], 0⟩, g, none, 0, fun _ => False⟩ : XF) xs) ((create_go hdn hnb hgd).trans (step_on hf1 hfu.1)) (by rw [insX_p, hxs]; show _ = insF _ (delF nm d.fs); rw [← hxs, ← delX_p, delX_none hno]) (by exact O121.sel [1, 2, 3, 0] (by decide))
 ·
  have HO := Own.sel (Own.file_open (Own.sel HO [3, 0, 1, 2] (by decide))) [3, 4, 5, 0, 1, 2] (by decide)
  have O122 : Own w0 w [R, Bk gd [.map (some gm), J d.most, J d.used, J d.fuse, .bool d.down] 76, Chunk.lmap Try.prog 9 gm ((pre ++ x :: post).map XF.ent), Bk x.g [.slice x.A x.p.b.length x.c, J x.p.sf] 81, Chunk.row (Kd.int .u8) 5 w0.heap.size x.S (.slice x.A x.p.b.length x.c) x.p.b, Chunk.files w0.heap.size (pre ++ post)] := HO
  clear HO
  refine gw_seq fun K123 hK123 => ?_
  refine wp_region_lit ?_
  refine gw_new HF O122 (want_none rfl) rfl (by decide) (op_box rfl (HF.ev rfl)) ?_
  intro g124 _ w126 H127 O128; clear HF O122
  have O129 : Own w0 w126 [Bk g124 [.pointer (some ⟨gd, 0, none⟩)] 23, R, Bk gd [.map (some gm), J d.most, J d.used, J d.fuse, .bool d.down] 76, Chunk.lmap Try.prog 9 gm ((pre ++ x :: post).map XF.ent), Bk x.g [.slice x.A x.p.b.length x.c, J x.p.sf] 81, Chunk.row (Kd.int .u8) 5 w0.heap.size x.S (.slice x.A x.p.b.length x.c) x.p.b, Chunk.files w0.heap.size (pre ++ post)] := O128
  clear O128
  refine gw_new H127 O129 (want_none rfl) rfl (by decide) (op_box rfl (H127.ev rfl)) ?_
  intro g130 _ w132 H133 O134; clear H127 O129
  have O135 : Own w0 w132 [Bk g130 [.string nm] 9, Bk g124 [.pointer (some ⟨gd, 0, none⟩)] 23, R, Bk gd [.map (some gm), J d.most, J d.used, J d.fuse, .bool d.down] 76, Chunk.lmap Try.prog 9 gm ((pre ++ x :: post).map XF.ent), Bk x.g [.slice x.A x.p.b.length x.c, J x.p.sf] 81, Chunk.row (Kd.int .u8) 5 w0.heap.size x.S (.slice x.A x.p.b.length x.c) x.p.b, Chunk.files w0.heap.size (pre ++ post)] := O134
  clear O134
  refine V H133 (op_assign rfl (ev_c _ _)) ?_
  intro _ H137; clear H133
  refine wpList_nil ?_
  refine gw_nx (hK123 _ _ ?_)
  refine gw_seq fun K138 hK138 => ?_
  refine wp_block ?_
  refine gw_seq fun K139 hK139 => ?_
  refine wp_region_lit ?_
  refine V H137 (op_load1 gwagg23 rfl (H137.ev rfl) (blk_at (O135.get 1 rfl) rfl)) ?_
  intro _ H141; clear H137
  refine V H141 (op_nil rfl (H141.ev rfl)) ?_
  intro _ H143; clear H141
  refine V H143 (op_field (gwfld76_4 _ _) rfl (H143.ev rfl)) ?_
  intro _ H145; clear H143
  refine V H145 (op_load1 gwagg4 rfl (H145.ev rfl) (blk_at (O135.get 3 rfl) rfl)) ?_
  intro _ H147; clear H145
  have H148 := H147.lit (b := false) (hdn)
  clear H147
  refine V H148 (op_assign rfl (H148.ev rfl)) ?_
  intro _ H150; clear H148
  refine wpList_nil ?_
  refine gw_nx (hK139 _ _ ?_)
  refine gw_cond H150 rfl (fun hb151 => ?_) (fun hb151 => ?_)
  skip
  ·
   cases hb151
  refine gw_seq fun K152 hK152 => ?_
  refine wp_region_lit ?_
  refine V H150 (op_load1 gwagg9 rfl (H150.ev rfl) (blk_at (O135.get 0 rfl) rfl)) ?_
  intro _ H154; clear H150
  refine gw_call H154 (want_none rfl) rfl (by decide) (op_callL Try.func39 (by kernel_rfl) rfl rfl (ar_cons (H154.ev rfl) ar_nil)) (named_calls nm _) ?_
  rintro e155 w156 ⟨rfl, hb157⟩
  refine ⟨_, rfl, fun _ H159 => ?_⟩
  have O160 := O135.after hb157
  clear H154 O135 hb157
  refine V H159 (op_not rfl (H159.ev rfl)) ?_
  intro _ H163; clear H159
  refine V H163 (op_assign rfl (H163.ev rfl)) ?_
  intro _ H165; clear H163
  refine wpList_nil ?_
  refine gw_nx (hK152 _ _ ?_)
  refine gw_cond H165 rfl (fun hb166 => ?_) (fun hb166 => ?_)
  ·
   have H167 := H165.subst_ (d := 10) (b := true) rfl hb166
   clear H165
   (try simp only [Bool.and_eq_true, Bool.or_eq_true, Bool.and_eq_false_iff, Bool.or_eq_false_iff, Bool.not_and, Bool.not_or, Bool.not_not, decide_eq_true_eq, decide_eq_false_iff_not, Bool.not_eq_true', Bool.not_eq_false', Bool.not_eq_true, Bool.not_eq_false, ne_eq, Decidable.not_not, Int.not_lt, Int.not_le, not_true_eq_false, not_false_eq_true, bne_iff_ne, beq_iff_eq, bne_eq_false_iff_eq, beq_eq_false_iff_ne] at hb166)
   have hnb : namedB nm = false := by simpa using hb166
   refine gw_seq fun K168 hK168 => ?_
   refine wp_region_lit ?_
   refine V H167 (op_assign rfl (ev_c _ _)) ?_
   intro _ H170; clear H167
   refine wpList_nil ?_
   refine gw_nx (hK168 _ _ ?_)
   refine wp_ret ?_
   refine gw_blr ?_
   refine gw_thr ?_
   refine gw_ret1 H170 rfl rfl ?_
   have O171 := Own.file_close (x := x) (pre := pre) (post := post) (by exact O160.sel [5, 6, 7, 0, 1, 2, 3, 4] (by decide))
   exact disk_fin (gd := gd) (gm := gm) (d' := d) (xs := pre ++ x :: post) (create_bad hdn hnb) hxs (by exact O171.sel [3, 4, 5, 0] (by decide))
  ·
   have H172 := H165.subst_ (d := 10) (b := false) rfl hb166
   clear H165
   (try simp only [Bool.and_eq_true, Bool.or_eq_true, Bool.and_eq_false_iff, Bool.or_eq_false_iff, Bool.not_and, Bool.not_or, Bool.not_not, decide_eq_true_eq, decide_eq_false_iff_not, Bool.not_eq_true', Bool.not_eq_false', Bool.not_eq_true, Bool.not_eq_false, ne_eq, Decidable.not_not, Int.not_lt, Int.not_le, not_true_eq_false, not_false_eq_true, bne_iff_ne, beq_iff_eq, bne_eq_false_iff_eq, beq_eq_false_iff_ne] at hb166)
   have hnb : namedB nm = true := by simpa using hb166
   refine gw_seq fun K173 hK173 => ?_
   refine gw_drawB O160 (by kernel_rfl) (by kernel_rfl) fun w174 O175 => ?_
   clear O160
   refine gq_ev H172 (want_none rfl) rfl (by decide) (fun wq hq => have HO := O175.after hq; (op_load1 gwagg23 rfl (H172.ev rfl) (blk_at (HO.get 1 rfl) rfl))) ?_
   intro _ H177; clear H172
   refine gq_ev H177 (want_none rfl) rfl (by decide) (fun wq hq => have HO := O175.after hq; (op_nil rfl (H177.ev rfl))) ?_
   intro _ H179; clear H177
   refine gq_ev H179 (want_none rfl) rfl (by decide) (fun wq hq => have HO := O175.after hq; (op_field (gwfld76_0 _ _) rfl (H179.ev rfl))) ?_
   intro _ H181; clear H179
   refine gq_ev H181 (want_none rfl) rfl (by decide) (fun wq hq => have HO := O175.after hq; (op_load1 gwagg74 rfl (H181.ev rfl) (blk_at (HO.get 3 rfl) rfl))) ?_
   intro _ H183; clear H181
   refine gq_ev H183 (want_none rfl) rfl (by decide) (fun wq hq => have HO := O175.after hq; (op_load1 gwagg9 rfl (H183.ev rfl) (blk_at (HO.get 0 rfl) rfl))) ?_
   intro _ H185; clear H183
   refine gq_ev H185 (want_none rfl) rfl (by decide) (fun wq hq => have HO := O175.after hq; (op_ml_some strKey Try.underlying74 gwzer78 rfl (H185.ev rfl) (H185.ev rfl) (keyS (hn)) (HO.get 4 rfl) (hl))) ?_
   intro _ H187; clear H185
   refine gq_ev H187 (want_none rfl) rfl (by decide) (fun wq hq => have HO := O175.after hq; (op_nep_nil Try.underlying78 rfl (H187.ev rfl))) ?_
   intro _ H189; clear H187
   refine gq_ev H189 (want_none rfl) rfl (by decide) (fun wq hq => have HO := O175.after hq; (op_assign rfl (H189.ev rfl))) ?_
   intro _ H191; clear H189
   refine wpQuiet_nil ?_
   intro w192 hq
   have O193 := O175.after hq
   clear O175 hq
   refine gw_nx (hK173 _ _ ?_)
   refine gw_cond H191 rfl (fun hb194 => ?_) (fun hb194 => ?_)
   rotate_left
   ·
    cases hb194
   refine gw_seq fun K195 hK195 => ?_
   refine wp_region_lit ?_
   refine V H191 (op_assign rfl (ev_c _ _)) ?_
   intro _ H197; clear H191
   refine wpList_nil ?_
   refine gw_nx (hK195 _ _ ?_)
   refine wp_ret ?_
   refine gw_blr ?_
   refine gw_thr ?_
   refine gw_ret1 H197 rfl rfl ?_
   have O198 := Own.file_close (x := x) (pre := pre) (post := post) (by exact O193.sel [5, 6, 7, 0, 1, 2, 3, 4] (by decide))
   exact disk_fin (gd := gd) (gm := gm) (d' := d) (xs := pre ++ x :: post) (create_twice hdn hnb hgd) hxs (by exact O198.sel [3, 4, 5, 0] (by decide))
end GVfs1_
export GVfs1_ (create1 create_calls)
end Go.Proofs.Ytkdahjnmldeklaa.PA
end
section
namespace Go.Proofs.Ytkdahjnmldeklaa.PA
open Go.RowKit Go.Proofs.YtkdahjnmldeklaaW.PrintWords Go.Proofs.YtkdahjnmldeklaaW.PrintLast Go.Proofs.YtkdahjnmldeklaaW.PrintMore
set_option linter.unusedVariables false
set_option linter.unusedSimpArgs false
namespace GVfs2_
theorem gwagg23 : ∀ w, (isAgg 23).run Try.prog w = .ok false w := fun _ => by kernel_rfl
theorem gwagg28 : ∀ w, (isAgg 28).run Try.prog w = .ok false w := fun _ => by kernel_rfl
theorem gwagg3 : ∀ w, (isAgg 3).run Try.prog w = .ok false w := fun _ => by kernel_rfl
theorem gwagg78 : ∀ w, (isAgg 78).run Try.prog w = .ok false w := fun _ => by kernel_rfl
theorem gwfld76_1 (g off : Nat) : ∀ w, (Instr.fieldAt 76 (.pointer (some ⟨g, off, none⟩)) 1).run Try.prog w = .ok (.pointer (some ⟨g, off + 1, none⟩)) w := fun _ => by kernel_rfl
theorem gwfld76_2 (g off : Nat) : ∀ w, (Instr.fieldAt 76 (.pointer (some ⟨g, off, none⟩)) 2).run Try.prog w = .ok (.pointer (some ⟨g, off + 2, none⟩)) w := fun _ => by kernel_rfl
theorem gwfld81_0 (g off : Nat) : ∀ w, (Instr.fieldAt 81 (.pointer (some ⟨g, off, none⟩)) 0).run Try.prog w = .ok (.pointer (some ⟨g, off + 0, none⟩)) w := fun _ => by kernel_rfl
theorem gwfld81_1 (g off : Nat) : ∀ w, (Instr.fieldAt 81 (.pointer (some ⟨g, off, none⟩)) 1).run Try.prog w = .ok (.pointer (some ⟨g, off + 1, none⟩)) w := fun _ => by kernel_rfl
theorem gwinfo5 : (Try.prog.info? 5).map (fun i => (i.zero, i.size, i.bytes)) = some (some (.int .u8 0), 1, 1) := by kernel_rfl
theorem gwsiz28 : ∀ w, (sizeOf 28).run Try.prog w = .ok 1 w := fun _ => by kernel_rfl
theorem gwsiz3 : ∀ w, (sizeOf 3).run Try.prog w = .ok 1 w := fun _ => by kernel_rfl
theorem gwsiz78 : ∀ w, (sizeOf 78).run Try.prog w = .ok 1 w := fun _ => by kernel_rfl
theorem gwzer78 : ∀ w, (zeroValue 78).run Try.prog w = .ok (.pointer none) w := fun _ => by kernel_rfl
set_option maxHeartbeats 4000000 in
set_option maxRecDepth 100000 in
theorem append1 (w0 w : World) (R : Chunk) (gd gm : Nat) (d : PD) (x : XF) (bf by_ bd : Nat) (Ay : Option Addr) (cy : Nat) (y : List Int) (hy : ∀ w1, Own w0 w1 [R] → Kd.C (Kd.int .u8) w1 Ay y.length y) (hcy : y.length ≤ cy) (hroom : x.p.b.length + y.length ≤ 140737488355327) (hu : 0 ≤ d.used ∧ d.used + y.length ≤ 9223372036854775807) (HO : Own w0 w [R, Bk gd [.map (some gm), .int .i64 d.most, .int .i64 d.used, .int .i64 d.fuse, .bool d.down] 76, Bk x.g [.slice x.A x.p.b.length x.c, .int .i64 x.p.sf] 81, Chunk.row (Kd.int .u8) 5 w0.heap.size x.S (.slice x.A x.p.b.length x.c) x.p.b, Bk bf [.pointer (some ⟨x.g, 0, none⟩)] 78, Bk by_ [.slice Ay y.length cy] 28, Bk bd [.pointer (some ⟨gd, 0, none⟩)] 23]) :
    Calls Try.prog 43 #[.pointer (some ⟨bf, 0, none⟩), .pointer (some ⟨by_, 0, none⟩), .pointer (some ⟨bd, 0, none⟩)] w fun e w' => e = .returned (.tuple #[]) ∧ ∃ A' c' S', Own w0 w' [R, Chunk.blk x.g (.cells #[.slice A' (x.p.b ++ y).length c', .int .i64 x.p.sf] 81 (0, 0)), Chunk.row (Kd.int .u8) 5 w0.heap.size S' (.slice A' (x.p.b ++ y).length c') (x.p.b ++ y), Chunk.blk gd (.cells (dcells gm { d with used := d.used + (y.length : Int) }) 76 (0, 0))] := by
 refine gw_startO (N := 21) (vs := [.pointer (some ⟨bf, 0, none⟩), .pointer (some ⟨by_, 0, none⟩), .pointer (some ⟨bd, 0, none⟩)]) Try.func43 rfl rfl (by simp) fun a HF => ?_
 refine gw_seq fun K1 hK1 => ?_
 refine gx_draw (M := [R, Bk gd [.map (some gm), J d.most, J d.used, J d.fuse, .bool d.down] 76, Bk x.g [.slice x.A x.p.b.length x.c, J x.p.sf] 81, Bk bf [.pointer (some ⟨x.g, 0, none⟩)] 78, Bk by_ [.slice Ay y.length cy] 28, Bk bd [.pointer (some ⟨gd, 0, none⟩)] 23]) (fun j_ => j_ == 9) HO (by kernel_rfl) fun w2 O3 => ?_
 clear HO
 refine gx_take 0 rfl (by kernel_rfl) HF (by exact O3.sel [0, 1, 2, 4, 5, 6] (by decide)) (want_none rfl) rfl (by decide) (fun wq HO => (op_load1 gwagg78 rfl (HF.ev rfl) (blk_at (HO.get 3 rfl) rfl))) ?_
 intro _ H5; clear HF
 refine gx_take 1 rfl (by kernel_rfl) H5 (by exact O3.sel [0, 1, 2, 4, 5, 6] (by decide)) (want_none rfl) rfl (by decide) (fun wq HO => (op_load1 gwagg78 rfl (H5.ev rfl) (blk_at (HO.get 3 rfl) rfl))) ?_
 intro _ H7; clear H5
 refine gx_take 2 rfl (by kernel_rfl) H7 (by exact O3.sel [0, 1, 2, 4, 5, 6] (by decide)) (want_none rfl) rfl (by decide) (fun wq HO => (op_nil rfl (H7.ev rfl))) ?_
 intro _ H9; clear H7
 refine gx_take 3 rfl (by kernel_rfl) H9 (by exact O3.sel [0, 1, 2, 4, 5, 6] (by decide)) (want_none rfl) rfl (by decide) (fun wq HO => (op_field (gwfld81_0 _ _) rfl (H9.ev rfl))) ?_
 intro _ H11; clear H9
 refine gx_take 4 rfl (by kernel_rfl) H11 (by exact O3.sel [0, 1, 2, 4, 5, 6] (by decide)) (want_none rfl) rfl (by decide) (fun wq HO => (op_load1 gwagg28 rfl (H11.ev rfl) (blk_at (HO.get 2 rfl) rfl))) ?_
 intro _ H13; clear H11
 refine gx_take 5 rfl (by kernel_rfl) H13 (by exact O3.sel [0, 1, 2, 4, 5, 6] (by decide)) (want_none rfl) rfl (by decide) (fun wq HO => (op_load1 gwagg28 rfl (H13.ev rfl) (blk_at (HO.get 4 rfl) rfl))) ?_
 intro _ H15; clear H13
 refine gx_step 6 rfl (by kernel_rfl) ?_
 refine gw_append (Kd.int .u8) 3 H15 O3 (want_none rfl) rfl (by decide) rfl Try.underlying28 gwinfo5 rfl (by decide) (by decide) rfl (H15.ev rfl) (H15.ev rfl) (hy _ (O3.sel [0] (by decide))) (fun _ _ h => h) O3.below.size (by first | omega | (simp; omega)) ?_
 intro A16 c17 S18 _ w20 H21 O22; clear H15 O3
 have O23 : Own w0 w20 [R, Bk gd [.map (some gm), J d.most, J d.used, J d.fuse, .bool d.down] 76, Bk x.g [.slice x.A x.p.b.length x.c, J x.p.sf] 81, Chunk.row (Kd.int .u8) 5 w0.heap.size S18 (.slice A16 ((x.p.b ++ y).length) c17) (x.p.b ++ y), Bk bf [.pointer (some ⟨x.g, 0, none⟩)] 78, Bk by_ [.slice Ay y.length cy] 28, Bk bd [.pointer (some ⟨gd, 0, none⟩)] 23] := O22
 clear O22
 refine gx_on (i := 6) (B := (fun j_ => j_ == 9)) (M := [R, Bk gd [.map (some gm), J d.most, J d.used, J d.fuse, .bool d.down] 76, Bk x.g [.slice x.A x.p.b.length x.c, J x.p.sf] 81, Bk bf [.pointer (some ⟨x.g, 0, none⟩)] 78, Bk by_ [.slice Ay y.length cy] 28, Bk bd [.pointer (some ⟨gd, 0, none⟩)] 23]) (fun _ => (by exact O23.sel [0, 1, 2, 4, 5, 6] (by decide))) ?_
 refine gx_step 7 rfl (by kernel_rfl) ?_
 refine V H21 (op_nil rfl (H21.ev rfl)) ?_
 intro _ H25; clear H21
 refine gx_on (i := 7) (B := (fun j_ => j_ == 9)) (M := [R, Bk gd [.map (some gm), J d.most, J d.used, J d.fuse, .bool d.down] 76, Bk x.g [.slice x.A x.p.b.length x.c, J x.p.sf] 81, Bk bf [.pointer (some ⟨x.g, 0, none⟩)] 78, Bk by_ [.slice Ay y.length cy] 28, Bk bd [.pointer (some ⟨gd, 0, none⟩)] 23]) (fun _ => (by exact O23.sel [0, 1, 2, 4, 5, 6] (by decide))) ?_
 refine gx_take 8 rfl (by kernel_rfl) H25 (by exact O23.sel [0, 1, 2, 4, 5, 6] (by decide)) (want_none rfl) rfl (by decide) (fun wq HO => (op_field (gwfld81_0 _ _) rfl (H25.ev rfl))) ?_
 intro _ H27; clear H25
 refine gx_step 9 rfl (by kernel_rfl) ?_
 refine gw_set 2 H27 O23 rfl (want_none rfl) rfl (op_store1 gwsiz28 rfl (H27.ev rfl) (H27.ev rfl) rfl (blk_at (O23.get 2 rfl) rfl) (blkf (O23.get 2 rfl))) ?_
 intro _ w30 H29 O31; clear H27 O23
 have O32 : Own w0 w30 [R, Bk gd [.map (some gm), J d.most, J d.used, J d.fuse, .bool d.down] 76, Bk x.g [.slice A16 ((x.p.b ++ y).length) c17, J x.p.sf] 81, Chunk.row (Kd.int .u8) 5 w0.heap.size S18 (.slice A16 ((x.p.b ++ y).length) c17) (x.p.b ++ y), Bk bf [.pointer (some ⟨x.g, 0, none⟩)] 78, Bk by_ [.slice Ay y.length cy] 28, Bk bd [.pointer (some ⟨gd, 0, none⟩)] 23] := O31
 clear O31
 refine gx_on (i := 9) (B := (fun j_ => j_ == 9)) (M := [R, Bk gd [.map (some gm), J d.most, J d.used, J d.fuse, .bool d.down] 76, Bk x.g [.slice x.A x.p.b.length x.c, J x.p.sf] 81, Bk bf [.pointer (some ⟨x.g, 0, none⟩)] 78, Bk by_ [.slice Ay y.length cy] 28, Bk bd [.pointer (some ⟨gd, 0, none⟩)] 23]) (fun h_ => by cases h_) ?_
 refine gx_done (by kernel_rfl) ?_
 refine gw_nx (hK1 _ _ ?_)
 refine gx_draw (M := [R, Bk gd [.map (some gm), J d.most, J d.used, J d.fuse, .bool d.down] 76, Bk x.g [.slice A16 ((x.p.b ++ y).length) c17, J x.p.sf] 81, Chunk.row (Kd.int .u8) 5 w0.heap.size S18 (.slice A16 ((x.p.b ++ y).length) c17) (x.p.b ++ y), Bk bf [.pointer (some ⟨x.g, 0, none⟩)] 78, Bk by_ [.slice Ay y.length cy] 28, Bk bd [.pointer (some ⟨gd, 0, none⟩)] 23]) (fun j_ => j_ == 9) O32 (by kernel_rfl) fun w33 O34 => ?_
 clear O32
 refine gx_take 0 rfl (by kernel_rfl) H29 (by exact O34.sel [0, 1, 2, 3, 4, 5, 6] (by decide)) (want_none rfl) rfl (by decide) (fun wq HO => (op_load1 gwagg23 rfl (H29.ev rfl) (blk_at (HO.get 6 rfl) rfl))) ?_
 intro _ H36; clear H29
 refine gx_take 1 rfl (by kernel_rfl) H36 (by exact O34.sel [0, 1, 2, 3, 4, 5, 6] (by decide)) (want_none rfl) rfl (by decide) (fun wq HO => (op_nil rfl (H36.ev rfl))) ?_
 intro _ H38; clear H36
 refine gx_take 2 rfl (by kernel_rfl) H38 (by exact O34.sel [0, 1, 2, 3, 4, 5, 6] (by decide)) (want_none rfl) rfl (by decide) (fun wq HO => (op_field (gwfld76_2 _ _) rfl (H38.ev rfl))) ?_
 intro _ H40; clear H38
 refine gx_take 3 rfl (by kernel_rfl) H40 (by exact O34.sel [0, 1, 2, 3, 4, 5, 6] (by decide)) (want_none rfl) rfl (by decide) (fun wq HO => (op_load1 gwagg3 rfl (H40.ev rfl) (blk_at (HO.get 1 rfl) rfl))) ?_
 intro _ H42; clear H40
 refine gx_take 4 rfl (by kernel_rfl) H42 (by exact O34.sel [0, 1, 2, 3, 4, 5, 6] (by decide)) (want_none rfl) rfl (by decide) (fun wq HO => (op_load1 gwagg28 rfl (H42.ev rfl) (blk_at (HO.get 5 rfl) rfl))) ?_
 intro _ H44; clear H42
 refine gx_take 5 rfl (by kernel_rfl) H44 (by exact O34.sel [0, 1, 2, 3, 4, 5, 6] (by decide)) (want_none rfl) rfl (by decide) (fun wq HO => (op_len Try.underlying28 rfl (H44.ev rfl))) ?_
 intro _ H46; clear H44
 refine gx_take 6 rfl (by kernel_rfl) H46 (by exact O34.sel [0, 1, 2, 3, 4, 5, 6] (by decide)) (want_none rfl) rfl (by decide) (fun wq HO => (op_add rfl (H46.ev rfl) (H46.ev rfl) (by omega))) ?_
 intro _ H48; clear H46
 refine gx_step 7 rfl (by kernel_rfl) ?_
 refine V H48 (op_nil rfl (H48.ev rfl)) ?_
 intro _ H50; clear H48
 refine gx_on (i := 7) (B := (fun j_ => j_ == 9)) (M := [R, Bk gd [.map (some gm), J d.most, J d.used, J d.fuse, .bool d.down] 76, Bk x.g [.slice A16 ((x.p.b ++ y).length) c17, J x.p.sf] 81, Chunk.row (Kd.int .u8) 5 w0.heap.size S18 (.slice A16 ((x.p.b ++ y).length) c17) (x.p.b ++ y), Bk bf [.pointer (some ⟨x.g, 0, none⟩)] 78, Bk by_ [.slice Ay y.length cy] 28, Bk bd [.pointer (some ⟨gd, 0, none⟩)] 23]) (fun _ => (by exact O34.sel [0, 1, 2, 3, 4, 5, 6] (by decide))) ?_
 refine gx_take 8 rfl (by kernel_rfl) H50 (by exact O34.sel [0, 1, 2, 3, 4, 5, 6] (by decide)) (want_none rfl) rfl (by decide) (fun wq HO => (op_field (gwfld76_2 _ _) rfl (H50.ev rfl))) ?_
 intro _ H52; clear H50
 refine gx_step 9 rfl (by kernel_rfl) ?_
 refine gw_set 1 H52 O34 rfl (want_none rfl) rfl (op_store1 gwsiz3 rfl (H52.ev rfl) (H52.ev rfl) rfl (blk_at (O34.get 1 rfl) rfl) (blkf (O34.get 1 rfl))) ?_
 intro _ w55 H54 O56; clear H52 O34
 have O57 : Own w0 w55 [R, Bk gd [.map (some gm), J d.most, J (d.used + (y.length : Int)), J d.fuse, .bool d.down] 76, Bk x.g [.slice A16 ((x.p.b ++ y).length) c17, J x.p.sf] 81, Chunk.row (Kd.int .u8) 5 w0.heap.size S18 (.slice A16 ((x.p.b ++ y).length) c17) (x.p.b ++ y), Bk bf [.pointer (some ⟨x.g, 0, none⟩)] 78, Bk by_ [.slice Ay y.length cy] 28, Bk bd [.pointer (some ⟨gd, 0, none⟩)] 23] := O56
 clear O56
 refine gx_on (i := 9) (B := (fun j_ => j_ == 9)) (M := [R, Bk gd [.map (some gm), J d.most, J d.used, J d.fuse, .bool d.down] 76, Bk x.g [.slice A16 ((x.p.b ++ y).length) c17, J x.p.sf] 81, Chunk.row (Kd.int .u8) 5 w0.heap.size S18 (.slice A16 ((x.p.b ++ y).length) c17) (x.p.b ++ y), Bk bf [.pointer (some ⟨x.g, 0, none⟩)] 78, Bk by_ [.slice Ay y.length cy] 28, Bk bd [.pointer (some ⟨gd, 0, none⟩)] 23]) (fun h_ => by cases h_) ?_
 refine gx_done (by kernel_rfl) ?_
 refine gw_end0 H54 rfl ?_
 exact ⟨rfl, _, _, _, O57.sel [0, 2, 3, 1] (by decide)⟩
set_option maxHeartbeats 4000000 in
set_option maxRecDepth 100000 in
theorem append_calls (w0 w : World) (R : Chunk) (gd : Nat) (S : Nat → Prop) (d : PD) (nm : ByteArray) (Ay : Option Addr) (cy : Nat) (y : List Int) (hy : ∀ w1, Own w0 w1 [R] → Kd.C (Kd.int .u8) w1 Ay y.length y) (hcy : y.length ≤ cy) (hw : wfD d) (hn : nm.size ≤ 9223372036854775807) (hroom : d.used + y.length ≤ 140737488355327) (HO : Own w0 w [R, Chunk.disk w0.heap.size gd S d]) :
    Calls Try.prog 15 #[.pointer (some ⟨gd, 0, none⟩), .string nm, .slice Ay y.length cy] w fun e w' => e = .returned (.int .i64 (appendD nm y d).2) ∧ ∃ S', Own w0 w' [R, Chunk.disk w0.heap.size gd S' (appendD nm y d).1] := by
 have hu0 := hw.used
 have hm0 := hw.most
 have hfu := hw.fuse
 obtain ⟨gm, xs, hxs, hon, HO⟩ := disk_open2 HO
 refine gw_startO (N := 35) (vs := [.pointer (some ⟨gd, 0, none⟩), .string nm, .slice Ay y.length cy]) Try.func15 rfl rfl (by simp) fun a HF => ?_
 rcases look3 nm d hxs hon with hdn | ⟨hdn, hl, hgd, hno⟩ | ⟨hdn, pre, x, post, rfl, hnm, hl, hgd, hoth⟩
 ·
  refine gw_seq fun K1 hK1 => ?_
  refine wp_region_lit ?_
  refine gw_new HF HO (want_none rfl) rfl (by decide) (op_box rfl (HF.ev rfl)) ?_
  intro g2 _ w4 H5 O6; clear HF HO
  have O7 : Own w0 w4 [Bk g2 [.pointer (some ⟨gd, 0, none⟩)] 23, R, Bk gd [.map (some gm), J d.most, J d.used, J d.fuse, .bool d.down] 76, Chunk.lmap Try.prog 9 gm (xs.map XF.ent), Chunk.files w0.heap.size xs] := O6
  clear O6
  refine gw_new H5 O7 (want_none rfl) rfl (by decide) (op_box rfl (H5.ev rfl)) ?_
  intro g8 _ w10 H11 O12; clear H5 O7
  have O13 : Own w0 w10 [Bk g8 [.slice Ay y.length cy] 28, Bk g2 [.pointer (some ⟨gd, 0, none⟩)] 23, R, Bk gd [.map (some gm), J d.most, J d.used, J d.fuse, .bool d.down] 76, Chunk.lmap Try.prog 9 gm (xs.map XF.ent), Chunk.files w0.heap.size xs] := O12
  clear O12
  refine V H11 (op_assign rfl (ev_c _ _)) ?_
  intro _ H15; clear H11
  refine wpList_nil ?_
  refine gw_nx (hK1 _ _ ?_)
  refine gw_seq fun K16 hK16 => ?_
  refine wp_region_lit ?_
  refine V H15 (op_load1 gwagg23 rfl (H15.ev rfl) (blk_at (O13.get 1 rfl) rfl)) ?_
  intro _ H18; clear H15
  refine V H18 (op_move rfl (H18.ev rfl)) ?_
  intro _ H20; clear H18
  refine gw_call H20 (want_none rfl) rfl (by decide) (op_callL Try.func42 (by kernel_rfl) rfl rfl (ar_cons (H20.ev rfl) (ar_cons (H20.ev rfl) ar_nil))) (find_down gd gm d nm (xs.map XF.ent) _ (by exact O13.get 3 rfl) (O13.get 4 rfl) hdn hn) ?_
  rintro e21 w22 ⟨rfl, hb23⟩
  refine ⟨_, rfl, fun _ H25 => ?_⟩
  have O26 := O13.after hb23
  clear H20 O13 hb23
  refine V H25 (op_move rfl (H25.ev rfl)) ?_
  intro _ H29; clear H25
  refine V H29 (op_extract rfl (H29.ev rfl) rfl) ?_
  intro _ H31; clear H29
  refine V H31 (op_extract rfl (H31.ev rfl) rfl) ?_
  intro _ H33; clear H31
  refine gw_new H33 O26 (want_none rfl) rfl (by decide) (op_alloc gwzer78 rfl) ?_
  intro g34 _ w36 H37 O38; clear H33 O26
  have O39 : Own w0 w36 [Bk g34 [.pointer none] 78, Bk g8 [.slice Ay y.length cy] 28, Bk g2 [.pointer (some ⟨gd, 0, none⟩)] 23, R, Bk gd [.map (some gm), J d.most, J d.used, J d.fuse, .bool d.down] 76, Chunk.lmap Try.prog 9 gm (xs.map XF.ent), Chunk.files w0.heap.size xs] := O38
  clear O38
  refine gw_set 0 H37 O39 rfl (want_none rfl) rfl (op_store1 gwsiz78 rfl (H37.ev rfl) (H37.ev rfl) rfl (blk_at (O39.get 0 rfl) rfl) (blkf (O39.get 0 rfl))) ?_
  intro _ w42 H41 O43; clear H37 O39
  have O44 : Own w0 w42 [Bk g34 [.pointer none] 78, Bk g8 [.slice Ay y.length cy] 28, Bk g2 [.pointer (some ⟨gd, 0, none⟩)] 23, R, Bk gd [.map (some gm), J d.most, J d.used, J d.fuse, .bool d.down] 76, Chunk.lmap Try.prog 9 gm (xs.map XF.ent), Chunk.files w0.heap.size xs] := O43
  clear O43
  refine V H41 (op_assign rfl (H41.ev rfl)) ?_
  intro _ H46; clear H41
  refine wpList_nil ?_
  refine gw_nx (hK16 _ _ ?_)
  refine gw_seq fun K47 hK47 => ?_
  refine wp_block ?_
  refine gw_seq fun K48 hK48 => ?_
  refine wp_region_lit ?_
  refine V H46 (op_move rfl (H46.ev rfl)) ?_
  intro _ H50; clear H46
  refine V H50 (op_nei rfl (H50.ev rfl) (ev_c _ _)) ?_
  intro _ H52; clear H50
  have H53 := H52.lit (b := true) (by decide)
  clear H52
  refine V H53 (op_assign rfl (H53.ev rfl)) ?_
  intro _ H55; clear H53
  refine wpList_nil ?_
  refine gw_nx (hK48 _ _ ?_)
  refine gw_cond H55 rfl (fun hb56 => ?_) (fun hb56 => ?_)
  rotate_left
  ·
   cases hb56
  refine gw_seq fun K57 hK57 => ?_
  refine wp_region_lit ?_
  refine V H55 (op_move rfl (H55.ev rfl)) ?_
  intro _ H59; clear H55
  refine V H59 (op_assign rfl (H59.ev rfl)) ?_
  intro _ H61; clear H59
  refine wpList_nil ?_
  refine gw_nx (hK57 _ _ ?_)
  refine wp_ret ?_
  refine gw_blr ?_
  refine gw_thr ?_
  refine gw_ret1 H61 rfl rfl ?_
  exact disk_fin (gd := gd) (gm := gm) (d' := d) (xs := xs) (with_down hdn) hxs (by exact O44.sel [3, 4, 5, 6] (by decide))
 ·
  refine gw_seq fun K62 hK62 => ?_
  refine wp_region_lit ?_
  refine gw_new HF HO (want_none rfl) rfl (by decide) (op_box rfl (HF.ev rfl)) ?_
  intro g63 _ w65 H66 O67; clear HF HO
  have O68 : Own w0 w65 [Bk g63 [.pointer (some ⟨gd, 0, none⟩)] 23, R, Bk gd [.map (some gm), J d.most, J d.used, J d.fuse, .bool d.down] 76, Chunk.lmap Try.prog 9 gm (xs.map XF.ent), Chunk.files w0.heap.size xs] := O67
  clear O67
  refine gw_new H66 O68 (want_none rfl) rfl (by decide) (op_box rfl (H66.ev rfl)) ?_
  intro g69 _ w71 H72 O73; clear H66 O68
  have O74 : Own w0 w71 [Bk g69 [.slice Ay y.length cy] 28, Bk g63 [.pointer (some ⟨gd, 0, none⟩)] 23, R, Bk gd [.map (some gm), J d.most, J d.used, J d.fuse, .bool d.down] 76, Chunk.lmap Try.prog 9 gm (xs.map XF.ent), Chunk.files w0.heap.size xs] := O73
  clear O73
  refine V H72 (op_assign rfl (ev_c _ _)) ?_
  intro _ H76; clear H72
  refine wpList_nil ?_
  refine gw_nx (hK62 _ _ ?_)
  refine gw_seq fun K77 hK77 => ?_
  refine wp_region_lit ?_
  refine V H76 (op_load1 gwagg23 rfl (H76.ev rfl) (blk_at (O74.get 1 rfl) rfl)) ?_
  intro _ H79; clear H76
  refine V H79 (op_move rfl (H79.ev rfl)) ?_
  intro _ H81; clear H79
  refine gw_call H81 (want_none rfl) rfl (by decide) (op_callL Try.func42 (by kernel_rfl) rfl rfl (ar_cons (H81.ev rfl) (ar_cons (H81.ev rfl) ar_nil))) (find_none gd gm d nm (xs.map XF.ent) _ (by exact O74.get 3 rfl) (O74.get 4 rfl) hdn hl hn) ?_
  rintro e82 w83 ⟨rfl, hb84⟩
  refine ⟨_, rfl, fun _ H86 => ?_⟩
  have O87 := O74.after hb84
  clear H81 O74 hb84
  refine V H86 (op_move rfl (H86.ev rfl)) ?_
  intro _ H90; clear H86
  refine V H90 (op_extract rfl (H90.ev rfl) rfl) ?_
  intro _ H92; clear H90
  refine V H92 (op_extract rfl (H92.ev rfl) rfl) ?_
  intro _ H94; clear H92
  refine gw_new H94 O87 (want_none rfl) rfl (by decide) (op_alloc gwzer78 rfl) ?_
  intro g95 _ w97 H98 O99; clear H94 O87
  have O100 : Own w0 w97 [Bk g95 [.pointer none] 78, Bk g69 [.slice Ay y.length cy] 28, Bk g63 [.pointer (some ⟨gd, 0, none⟩)] 23, R, Bk gd [.map (some gm), J d.most, J d.used, J d.fuse, .bool d.down] 76, Chunk.lmap Try.prog 9 gm (xs.map XF.ent), Chunk.files w0.heap.size xs] := O99
  clear O99
  refine gw_set 0 H98 O100 rfl (want_none rfl) rfl (op_store1 gwsiz78 rfl (H98.ev rfl) (H98.ev rfl) rfl (blk_at (O100.get 0 rfl) rfl) (blkf (O100.get 0 rfl))) ?_
  intro _ w103 H102 O104; clear H98 O100
  have O105 : Own w0 w103 [Bk g95 [.pointer none] 78, Bk g69 [.slice Ay y.length cy] 28, Bk g63 [.pointer (some ⟨gd, 0, none⟩)] 23, R, Bk gd [.map (some gm), J d.most, J d.used, J d.fuse, .bool d.down] 76, Chunk.lmap Try.prog 9 gm (xs.map XF.ent), Chunk.files w0.heap.size xs] := O104
  clear O104
  refine V H102 (op_assign rfl (H102.ev rfl)) ?_
  intro _ H107; clear H102
  refine wpList_nil ?_
  refine gw_nx (hK77 _ _ ?_)
  refine gw_seq fun K108 hK108 => ?_
  refine wp_block ?_
  refine gw_seq fun K109 hK109 => ?_
  refine wp_region_lit ?_
  refine V H107 (op_move rfl (H107.ev rfl)) ?_
  intro _ H111; clear H107
  refine V H111 (op_nei rfl (H111.ev rfl) (ev_c _ _)) ?_
  intro _ H113; clear H111
  have H114 := H113.lit (b := true) (by decide)
  clear H113
  refine V H114 (op_assign rfl (H114.ev rfl)) ?_
  intro _ H116; clear H114
  refine wpList_nil ?_
  refine gw_nx (hK109 _ _ ?_)
  refine gw_cond H116 rfl (fun hb117 => ?_) (fun hb117 => ?_)
  rotate_left
  ·
   cases hb117
  refine gw_seq fun K118 hK118 => ?_
  refine wp_region_lit ?_
  refine V H116 (op_move rfl (H116.ev rfl)) ?_
  intro _ H120; clear H116
  refine V H120 (op_assign rfl (H120.ev rfl)) ?_
  intro _ H122; clear H120
  refine wpList_nil ?_
  refine gw_nx (hK118 _ _ ?_)
  refine wp_ret ?_
  refine gw_blr ?_
  refine gw_thr ?_
  refine gw_ret1 H122 rfl rfl ?_
  exact disk_fin (gd := gd) (gm := gm) (d' := d) (xs := xs) (with_none hdn hgd) hxs (by exact O105.sel [3, 4, 5, 6] (by decide))
 ·
  have HO := Own.sel (Own.file_open (Own.sel HO [3, 0, 1, 2] (by decide))) [3, 4, 5, 0, 1, 2] (by decide)
  have hxl := wf_len hw (getF_mem hgd).1
  have hxs1 := hw.sf _ (getF_mem hgd).1
  have O123 : Own w0 w [R, Bk gd [.map (some gm), J d.most, J d.used, J d.fuse, .bool d.down] 76, Chunk.lmap Try.prog 9 gm ((pre ++ x :: post).map XF.ent), Bk x.g [.slice x.A x.p.b.length x.c, J x.p.sf] 81, Chunk.row (Kd.int .u8) 5 w0.heap.size x.S (.slice x.A x.p.b.length x.c) x.p.b, Chunk.files w0.heap.size (pre ++ post)] := HO
  clear HO
  refine gw_seq fun K124 hK124 => ?_
  refine wp_region_lit ?_
  refine gw_new HF O123 (want_none rfl) rfl (by decide) (op_box rfl (HF.ev rfl)) ?_
  intro g125 _ w127 H128 O129; clear HF O123
  have O130 : Own w0 w127 [Bk g125 [.pointer (some ⟨gd, 0, none⟩)] 23, R, Bk gd [.map (some gm), J d.most, J d.used, J d.fuse, .bool d.down] 76, Chunk.lmap Try.prog 9 gm ((pre ++ x :: post).map XF.ent), Bk x.g [.slice x.A x.p.b.length x.c, J x.p.sf] 81, Chunk.row (Kd.int .u8) 5 w0.heap.size x.S (.slice x.A x.p.b.length x.c) x.p.b, Chunk.files w0.heap.size (pre ++ post)] := O129
  clear O129
  refine gw_new H128 O130 (want_none rfl) rfl (by decide) (op_box rfl (H128.ev rfl)) ?_
  intro g131 _ w133 H134 O135; clear H128 O130
  have O136 : Own w0 w133 [Bk g131 [.slice Ay y.length cy] 28, Bk g125 [.pointer (some ⟨gd, 0, none⟩)] 23, R, Bk gd [.map (some gm), J d.most, J d.used, J d.fuse, .bool d.down] 76, Chunk.lmap Try.prog 9 gm ((pre ++ x :: post).map XF.ent), Bk x.g [.slice x.A x.p.b.length x.c, J x.p.sf] 81, Chunk.row (Kd.int .u8) 5 w0.heap.size x.S (.slice x.A x.p.b.length x.c) x.p.b, Chunk.files w0.heap.size (pre ++ post)] := O135
  clear O135
  refine V H134 (op_assign rfl (ev_c _ _)) ?_
  intro _ H138; clear H134
  refine wpList_nil ?_
  refine gw_nx (hK124 _ _ ?_)
  refine gw_seq fun K139 hK139 => ?_
  refine wp_region_lit ?_
  refine V H138 (op_load1 gwagg23 rfl (H138.ev rfl) (blk_at (O136.get 1 rfl) rfl)) ?_
  intro _ H141; clear H138
  refine V H141 (op_move rfl (H141.ev rfl)) ?_
  intro _ H143; clear H141
  refine gw_call H143 (want_none rfl) rfl (by decide) (op_callL Try.func42 (by kernel_rfl) rfl rfl (ar_cons (H143.ev rfl) (ar_cons (H143.ev rfl) ar_nil))) (find_some gd gm d nm ((pre ++ x :: post).map XF.ent) x.g _ (by exact O136.get 3 rfl) (O136.get 4 rfl) hdn hl hn) ?_
  rintro e144 w145 ⟨rfl, hb146⟩
  refine ⟨_, rfl, fun _ H148 => ?_⟩
  have O149 := O136.after hb146
  clear H143 O136 hb146
  refine V H148 (op_move rfl (H148.ev rfl)) ?_
  intro _ H152; clear H148
  refine V H152 (op_extract rfl (H152.ev rfl) rfl) ?_
  intro _ H154; clear H152
  refine V H154 (op_extract rfl (H154.ev rfl) rfl) ?_
  intro _ H156; clear H154
  refine gw_new H156 O149 (want_none rfl) rfl (by decide) (op_alloc gwzer78 rfl) ?_
  intro g157 _ w159 H160 O161; clear H156 O149
  have O162 : Own w0 w159 [Bk g157 [.pointer none] 78, Bk g131 [.slice Ay y.length cy] 28, Bk g125 [.pointer (some ⟨gd, 0, none⟩)] 23, R, Bk gd [.map (some gm), J d.most, J d.used, J d.fuse, .bool d.down] 76, Chunk.lmap Try.prog 9 gm ((pre ++ x :: post).map XF.ent), Bk x.g [.slice x.A x.p.b.length x.c, J x.p.sf] 81, Chunk.row (Kd.int .u8) 5 w0.heap.size x.S (.slice x.A x.p.b.length x.c) x.p.b, Chunk.files w0.heap.size (pre ++ post)] := O161
  clear O161
  refine gw_set 0 H160 O162 rfl (want_none rfl) rfl (op_store1 gwsiz78 rfl (H160.ev rfl) (H160.ev rfl) rfl (blk_at (O162.get 0 rfl) rfl) (blkf (O162.get 0 rfl))) ?_
  intro _ w165 H164 O166; clear H160 O162
  have O167 : Own w0 w165 [Bk g157 [.pointer (some ⟨x.g, 0, none⟩)] 78, Bk g131 [.slice Ay y.length cy] 28, Bk g125 [.pointer (some ⟨gd, 0, none⟩)] 23, R, Bk gd [.map (some gm), J d.most, J d.used, J d.fuse, .bool d.down] 76, Chunk.lmap Try.prog 9 gm ((pre ++ x :: post).map XF.ent), Bk x.g [.slice x.A x.p.b.length x.c, J x.p.sf] 81, Chunk.row (Kd.int .u8) 5 w0.heap.size x.S (.slice x.A x.p.b.length x.c) x.p.b, Chunk.files w0.heap.size (pre ++ post)] := O166
  clear O166
  refine V H164 (op_assign rfl (H164.ev rfl)) ?_
  intro _ H169; clear H164
  refine wpList_nil ?_
  refine gw_nx (hK139 _ _ ?_)
  refine gw_seq fun K170 hK170 => ?_
  refine wp_block ?_
  refine gw_seq fun K171 hK171 => ?_
  refine wp_region_lit ?_
  refine V H169 (op_move rfl (H169.ev rfl)) ?_
  intro _ H173; clear H169
  refine V H173 (op_nei rfl (H173.ev rfl) (ev_c _ _)) ?_
  intro _ H175; clear H173
  have H176 := H175.lit (b := false) (by decide)
  clear H175
  refine V H176 (op_assign rfl (H176.ev rfl)) ?_
  intro _ H178; clear H176
  refine wpList_nil ?_
  refine gw_nx (hK171 _ _ ?_)
  refine gw_cond H178 rfl (fun hb179 => ?_) (fun hb179 => ?_)
  skip
  ·
   cases hb179
  refine gw_seq fun K180 hK180 => ?_
  refine gw_drawB O167 (by kernel_rfl) (by kernel_rfl) fun w181 O182 => ?_
  clear O167
  refine gq_ev H178 (want_none rfl) rfl (by decide) (fun wq hq => have HO := O182.after hq; (op_load1 gwagg28 rfl (H178.ev rfl) (blk_at (HO.get 1 rfl) rfl))) ?_
  intro _ H184; clear H178
  refine gq_ev H184 (want_none rfl) rfl (by decide) (fun wq hq => have HO := O182.after hq; (op_len Try.underlying28 rfl (H184.ev rfl))) ?_
  intro _ H186; clear H184
  refine gq_ev H186 (want_none rfl) rfl (by decide) (fun wq hq => have HO := O182.after hq; (op_load1 gwagg23 rfl (H186.ev rfl) (blk_at (HO.get 2 rfl) rfl))) ?_
  intro _ H188; clear H186
  refine gq_ev H188 (want_none rfl) rfl (by decide) (fun wq hq => have HO := O182.after hq; (op_nil rfl (H188.ev rfl))) ?_
  intro _ H190; clear H188
  refine gq_ev H190 (want_none rfl) rfl (by decide) (fun wq hq => have HO := O182.after hq; (op_field (gwfld76_1 _ _) rfl (H190.ev rfl))) ?_
  intro _ H192; clear H190
  refine gq_ev H192 (want_none rfl) rfl (by decide) (fun wq hq => have HO := O182.after hq; (op_load1 gwagg3 rfl (H192.ev rfl) (blk_at (HO.get 4 rfl) rfl))) ?_
  intro _ H194; clear H192
  refine gq_ev H194 (want_none rfl) rfl (by decide) (fun wq hq => have HO := O182.after hq; (op_load1 gwagg23 rfl (H194.ev rfl) (blk_at (HO.get 2 rfl) rfl))) ?_
  intro _ H196; clear H194
  refine gq_ev H196 (want_none rfl) rfl (by decide) (fun wq hq => have HO := O182.after hq; (op_nil rfl (H196.ev rfl))) ?_
  intro _ H198; clear H196
  refine gq_ev H198 (want_none rfl) rfl (by decide) (fun wq hq => have HO := O182.after hq; (op_field (gwfld76_2 _ _) rfl (H198.ev rfl))) ?_
  intro _ H200; clear H198
  refine gq_ev H200 (want_none rfl) rfl (by decide) (fun wq hq => have HO := O182.after hq; (op_load1 gwagg3 rfl (H200.ev rfl) (blk_at (HO.get 4 rfl) rfl))) ?_
  intro _ H202; clear H200
  refine gq_ev H202 (want_none rfl) rfl (by decide) (fun wq hq => have HO := O182.after hq; (op_sub rfl (H202.ev rfl) (H202.ev rfl) (by omega))) ?_
  intro _ H204; clear H202
  refine gq_ev H204 (want_none rfl) rfl (by decide) (fun wq hq => have HO := O182.after hq; (op_gtr rfl (H204.ev rfl) (H204.ev rfl))) ?_
  intro _ H206; clear H204
  refine gq_ev H206 (want_none rfl) rfl (by decide) (fun wq hq => have HO := O182.after hq; (op_assign rfl (H206.ev rfl))) ?_
  intro _ H208; clear H206
  refine wpQuiet_nil ?_
  intro w209 hq
  have O210 := O182.after hq
  clear O182 hq
  refine gw_nx (hK180 _ _ ?_)
  refine gw_cond H208 rfl (fun hb211 => ?_) (fun hb211 => ?_)
  ·
   have H212 := H208.subst_ (d := 19) (b := true) rfl hb211
   clear H208
   (try simp only [decide_eq_true_eq] at hb211)
   refine gw_seq fun K213 hK213 => ?_
   refine wp_region_lit ?_
   refine V H212 (op_assign rfl (ev_c _ _)) ?_
   intro _ H215; clear H212
   refine wpList_nil ?_
   refine gw_nx (hK213 _ _ ?_)
   refine wp_ret ?_
   refine gw_blr ?_
   refine gw_thr ?_
   refine gw_ret1 H215 rfl rfl ?_
   have O216 := Own.file_close (x := x) (pre := pre) (post := post) (by exact O210.sel [6, 7, 8, 0, 1, 2, 3, 4, 5] (by decide))
   exact disk_fin (gd := gd) (gm := gm) (d' := d) (xs := pre ++ x :: post) (append_full hdn hgd (by omega)) hxs (by exact O216.sel [4, 5, 6, 0] (by decide))
  ·
   have H217 := H208.subst_ (d := 19) (b := false) rfl hb211
   clear H208
   (try simp only [decide_eq_false_iff_not, Int.not_lt] at hb211)
   refine wp_skip ?_
   refine gw_blk ?_
   refine gw_nx (hK170 _ _ ?_)
   refine gw_seq fun K218 hK218 => ?_
   refine wp_region_lit ?_
   refine V H217 (op_load1 gwagg23 rfl (H217.ev rfl) (blk_at (O210.get 2 rfl) rfl)) ?_
   intro _ H220; clear H217
   refine V H220 (op_func rfl (ar_cons (H220.ev rfl) (ar_cons (H220.ev rfl) (ar_cons (H220.ev rfl) ar_nil)))) ?_
   intro _ H222; clear H220
   have O229 : Own w0 _ [(Chunk.all [Bk g157 [.pointer (some ⟨x.g, 0, none⟩)] 78, Bk g131 [.slice Ay y.length cy] 28, Bk g125 [.pointer (some ⟨gd, 0, none⟩)] 23, R, Chunk.lmap Try.prog 9 gm ((pre ++ x :: post).map XF.ent), Bk x.g [.slice x.A x.p.b.length x.c, J x.p.sf] 81, Chunk.row (Kd.int .u8) 5 w0.heap.size x.S (.slice x.A x.p.b.length x.c) x.p.b, Chunk.files w0.heap.size (pre ++ post)]), Bk gd [.map (some gm), J d.most, J d.used, J d.fuse, .bool d.down] 76] := Own.bundle (A := [Bk g157 [.pointer (some ⟨x.g, 0, none⟩)] 78, Bk g131 [.slice Ay y.length cy] 28, Bk g125 [.pointer (some ⟨gd, 0, none⟩)] 23, R, Chunk.lmap Try.prog 9 gm ((pre ++ x :: post).map XF.ent), Bk x.g [.slice x.A x.p.b.length x.c, J x.p.sf] 81, Chunk.row (Kd.int .u8) 5 w0.heap.size x.S (.slice x.A x.p.b.length x.c) x.p.b, Chunk.files w0.heap.size (pre ++ post)]) (L := [Bk gd [.map (some gm), J d.most, J d.used, J d.fuse, .bool d.down] 76]) (O210.sel [0, 1, 2, 3, 5, 6, 7, 8, 4] (by decide))
   refine gw_call H222 (want_none rfl) rfl (by decide) (op_callL Try.func40 (by kernel_rfl) rfl rfl (ar_cons (H222.ev rfl) (ar_cons (H222.ev rfl) ar_nil))) (step_calls w0 _ (Chunk.all [Bk g157 [.pointer (some ⟨x.g, 0, none⟩)] 78, Bk g131 [.slice Ay y.length cy] 28, Bk g125 [.pointer (some ⟨gd, 0, none⟩)] 23, R, Chunk.lmap Try.prog 9 gm ((pre ++ x :: post).map XF.ent), Bk x.g [.slice x.A x.p.b.length x.c, J x.p.sf] 81, Chunk.row (Kd.int .u8) 5 w0.heap.size x.S (.slice x.A x.p.b.length x.c) x.p.b, Chunk.files w0.heap.size (pre ++ post)]) gd gm d 43 _ [.pointer (some ⟨g157, 0, none⟩), .pointer (some ⟨g131, 0, none⟩), .pointer (some ⟨g125, 0, none⟩)] (fun w_ => ∃ A' c' S', Own w0 w_ [(Chunk.all [R, Chunk.lmap Try.prog 9 gm ((pre ++ x :: post).map XF.ent), Chunk.files w0.heap.size (pre ++ post)]), Bk x.g [.slice A' ((x.p.b ++ y).length) c', J x.p.sf] 81, Chunk.row (Kd.int .u8) 5 w0.heap.size S' (.slice A' ((x.p.b ++ y).length) c') (x.p.b ++ y), Bk gd [.map (some gm), J (({ d with fuse := decF d.fuse } : PD).most), J (d.used + (y.length : Int)), J (({ d with fuse := decF d.fuse } : PD).fuse), .bool (({ d with fuse := decF d.fuse } : PD).down)] 76]) Try.func43 (by kernel_rfl) rfl hfu (fun hf1 w1 h_ => append1 w0 w1 (Chunk.all [R, Chunk.lmap Try.prog 9 gm ((pre ++ x :: post).map XF.ent), Chunk.files w0.heap.size (pre ++ post)]) gd gm ({ d with fuse := decF d.fuse } : PD) x g157 g131 g125 Ay cy y (fun w_ h_ => hy w_ ((Own.unbundle (A := [R, Chunk.lmap Try.prog 9 gm ((pre ++ x :: post).map XF.ent), Chunk.files w0.heap.size (pre ++ post)]) (L := []) (by exact h_)).sel [0] (by decide))) hcy (by omega) (by show 0 ≤ d.used ∧ d.used + (y.length : Int) ≤ _; omega) (Own.bundle (A := [R, Chunk.lmap Try.prog 9 gm ((pre ++ x :: post).map XF.ent), Chunk.files w0.heap.size (pre ++ post)]) (L := [Bk gd [.map (some gm), J (({ d with fuse := decF d.fuse } : PD).most), J (({ d with fuse := decF d.fuse } : PD).used), J (({ d with fuse := decF d.fuse } : PD).fuse), .bool (({ d with fuse := decF d.fuse } : PD).down)] 76, Bk x.g [.slice x.A x.p.b.length x.c, J x.p.sf] 81, Chunk.row (Kd.int .u8) 5 w0.heap.size x.S (.slice x.A x.p.b.length x.c) x.p.b, Bk g157 [.pointer (some ⟨x.g, 0, none⟩)] 78, Bk g131 [.slice Ay y.length cy] 28, Bk g125 [.pointer (some ⟨gd, 0, none⟩)] 23]) ((Own.unbundle (A := [Bk g157 [.pointer (some ⟨x.g, 0, none⟩)] 78, Bk g131 [.slice Ay y.length cy] 28, Bk g125 [.pointer (some ⟨gd, 0, none⟩)] 23, R, Chunk.lmap Try.prog 9 gm ((pre ++ x :: post).map XF.ent), Bk x.g [.slice x.A x.p.b.length x.c, J x.p.sf] 81, Chunk.row (Kd.int .u8) 5 w0.heap.size x.S (.slice x.A x.p.b.length x.c) x.p.b, Chunk.files w0.heap.size (pre ++ post)]) (L := [Bk gd [.map (some gm), J (({ d with fuse := decF d.fuse } : PD).most), J (({ d with fuse := decF d.fuse } : PD).used), J (({ d with fuse := decF d.fuse } : PD).fuse), .bool (({ d with fuse := decF d.fuse } : PD).down)] 76]) (by exact h_)).sel [3, 4, 7, 8, 5, 6, 0, 1, 2] (by decide)))) (by exact O229)) ?_
   rintro e223 w224 (⟨hf1, rfl, hb225⟩ | ⟨hf1, rfl, ⟨A', c', S', hb225⟩⟩)
   ·
    refine ⟨_, rfl, fun _ H227 => ?_⟩
    have O228 : Own w0 w224 [Bk g157 [.pointer (some ⟨x.g, 0, none⟩)] 78, Bk g131 [.slice Ay y.length cy] 28, Bk g125 [.pointer (some ⟨gd, 0, none⟩)] 23, R, Chunk.lmap Try.prog 9 gm ((pre ++ x :: post).map XF.ent), Bk x.g [.slice x.A x.p.b.length x.c, J x.p.sf] 81, Chunk.row (Kd.int .u8) 5 w0.heap.size x.S (.slice x.A x.p.b.length x.c) x.p.b, Chunk.files w0.heap.size (pre ++ post), Bk gd [.map (some gm), J d.most, J d.used, J 0, .bool true] 76] := Own.unbundle (A := [Bk g157 [.pointer (some ⟨x.g, 0, none⟩)] 78, Bk g131 [.slice Ay y.length cy] 28, Bk g125 [.pointer (some ⟨gd, 0, none⟩)] 23, R, Chunk.lmap Try.prog 9 gm ((pre ++ x :: post).map XF.ent), Bk x.g [.slice x.A x.p.b.length x.c, J x.p.sf] 81, Chunk.row (Kd.int .u8) 5 w0.heap.size x.S (.slice x.A x.p.b.length x.c) x.p.b, Chunk.files w0.heap.size (pre ++ post)]) (L := [Bk gd [.map (some gm), J d.most, J d.used, J 0, .bool true] 76]) (by exact hb225)
    clear O229 hb225
    clear H222 O210
    refine V H227 (op_assign rfl (H227.ev rfl)) ?_
    intro _ H231; clear H227
    refine wpList_nil ?_
    refine gw_nx (hK218 _ _ ?_)
    refine wp_ret ?_
    refine gw_ret1 H231 rfl rfl ?_
    have O232 := Own.file_close (x := x) (pre := pre) (post := post) (by exact O228.sel [5, 6, 7, 0, 1, 2, 3, 4, 8] (by decide))
    exact disk_fin (gd := gd) (gm := gm) (d' := { d with fuse := 0, down := true }) (xs := pre ++ x :: post) ((append_go hdn hgd (by omega)).trans (step_off hf1)) hxs (by exact O232.sel [4, 6, 5, 0] (by decide))
   ·
    refine ⟨_, rfl, fun _ H227 => ?_⟩
    have O228 : Own w0 w224 [R, Chunk.lmap Try.prog 9 gm ((pre ++ x :: post).map XF.ent), Chunk.files w0.heap.size (pre ++ post), Bk x.g [.slice A' ((x.p.b ++ y).length) c', J x.p.sf] 81, Chunk.row (Kd.int .u8) 5 w0.heap.size S' (.slice A' ((x.p.b ++ y).length) c') (x.p.b ++ y), Bk gd [.map (some gm), J (({ d with fuse := decF d.fuse } : PD).most), J (d.used + (y.length : Int)), J (({ d with fuse := decF d.fuse } : PD).fuse), .bool (({ d with fuse := decF d.fuse } : PD).down)] 76] := Own.unbundle (A := [R, Chunk.lmap Try.prog 9 gm ((pre ++ x :: post).map XF.ent), Chunk.files w0.heap.size (pre ++ post)]) (L := [Bk x.g [.slice A' ((x.p.b ++ y).length) c', J x.p.sf] 81, Chunk.row (Kd.int .u8) 5 w0.heap.size S' (.slice A' ((x.p.b ++ y).length) c') (x.p.b ++ y), Bk gd [.map (some gm), J (({ d with fuse := decF d.fuse } : PD).most), J (d.used + (y.length : Int)), J (({ d with fuse := decF d.fuse } : PD).fuse), .bool (({ d with fuse := decF d.fuse } : PD).down)] 76]) hb225
    clear O229 hb225
    clear H222 O210
    refine V H227 (op_assign rfl (H227.ev rfl)) ?_
    intro _ H234; clear H227
    refine wpList_nil ?_
    refine gw_nx (hK218 _ _ ?_)
    refine wp_ret ?_
    refine gw_ret1 H234 rfl rfl ?_
    have O235 := Own.file_close (x := (⟨⟨x.p.nm, x.p.b ++ y, x.p.sf⟩, x.g, A', c', S'⟩ : XF)) (pre := pre) (post := post) (by exact O228.sel [3, 4, 2, 0, 1, 5] (by decide))
    have el_ : (pre ++ x :: post).map XF.ent = (pre ++ (⟨⟨x.p.nm, x.p.b ++ y, x.p.sf⟩, x.g, A', c', S'⟩ : XF) :: post).map XF.ent := by simp [XF.ent]
    rw [el_] at O235
    exact disk_fin (gd := gd) (gm := gm) (d' := _) (xs := pre ++ (⟨⟨x.p.nm, x.p.b ++ y, x.p.sf⟩, x.g, A', c', S'⟩ : XF) :: post) ((append_go hdn hgd (by omega)).trans (step_on hf1 hfu.1)) (by show _ = updF nm _ d.fs; rw [← hxs, upd_mid hnm hoth]; simp) (by exact O235.sel [1, 3, 2, 0] (by decide))
set_option maxHeartbeats 4000000 in
set_option maxRecDepth 100000 in
theorem sync1 (w0 w : World) (R : Chunk) (gd gm : Nat) (d : PD) (x : XF) (bf : Nat) (HO : Own w0 w [R, Bk gd [.map (some gm), .int .i64 d.most, .int .i64 d.used, .int .i64 d.fuse, .bool d.down] 76, Bk x.g [.slice x.A x.p.b.length x.c, .int .i64 x.p.sf] 81, Bk bf [.pointer (some ⟨x.g, 0, none⟩)] 78]) :
    Calls Try.prog 44 #[.pointer (some ⟨bf, 0, none⟩)] w fun e w' => e = .returned (.tuple #[]) ∧ Own w0 w' [R, Chunk.blk x.g (.cells #[.slice x.A (x.p.b).length x.c, .int .i64 (x.p.b.length : Int)] 81 (0, 0)), Chunk.blk gd (.cells (dcells gm d) 76 (0, 0))] := by
 refine gw_startO (N := 9) (vs := [.pointer (some ⟨bf, 0, none⟩)]) Try.func44 rfl rfl (by simp) fun a HF => ?_
 refine gx_draw (M := [R, Bk gd [.map (some gm), J d.most, J d.used, J d.fuse, .bool d.down] 76, Bk x.g [.slice x.A x.p.b.length x.c, J x.p.sf] 81, Bk bf [.pointer (some ⟨x.g, 0, none⟩)] 78]) (fun j_ => j_ == 8) HO (by kernel_rfl) fun w1 O2 => ?_
 clear HO
 refine gx_take 0 rfl (by kernel_rfl) HF (by exact O2.sel [0, 1, 2, 3] (by decide)) (want_none rfl) rfl (by decide) (fun wq HO => (op_load1 gwagg78 rfl (HF.ev rfl) (blk_at (HO.get 3 rfl) rfl))) ?_
 intro _ H4; clear HF
 refine gx_take 1 rfl (by kernel_rfl) H4 (by exact O2.sel [0, 1, 2, 3] (by decide)) (want_none rfl) rfl (by decide) (fun wq HO => (op_load1 gwagg78 rfl (H4.ev rfl) (blk_at (HO.get 3 rfl) rfl))) ?_
 intro _ H6; clear H4
 refine gx_take 2 rfl (by kernel_rfl) H6 (by exact O2.sel [0, 1, 2, 3] (by decide)) (want_none rfl) rfl (by decide) (fun wq HO => (op_nil rfl (H6.ev rfl))) ?_
 intro _ H8; clear H6
 refine gx_take 3 rfl (by kernel_rfl) H8 (by exact O2.sel [0, 1, 2, 3] (by decide)) (want_none rfl) rfl (by decide) (fun wq HO => (op_field (gwfld81_0 _ _) rfl (H8.ev rfl))) ?_
 intro _ H10; clear H8
 refine gx_take 4 rfl (by kernel_rfl) H10 (by exact O2.sel [0, 1, 2, 3] (by decide)) (want_none rfl) rfl (by decide) (fun wq HO => (op_load1 gwagg28 rfl (H10.ev rfl) (blk_at (HO.get 2 rfl) rfl))) ?_
 intro _ H12; clear H10
 refine gx_take 5 rfl (by kernel_rfl) H12 (by exact O2.sel [0, 1, 2, 3] (by decide)) (want_none rfl) rfl (by decide) (fun wq HO => (op_len Try.underlying28 rfl (H12.ev rfl))) ?_
 intro _ H14; clear H12
 refine gx_step 6 rfl (by kernel_rfl) ?_
 refine V H14 (op_nil rfl (H14.ev rfl)) ?_
 intro _ H16; clear H14
 refine gx_on (i := 6) (B := (fun j_ => j_ == 8)) (M := [R, Bk gd [.map (some gm), J d.most, J d.used, J d.fuse, .bool d.down] 76, Bk x.g [.slice x.A x.p.b.length x.c, J x.p.sf] 81, Bk bf [.pointer (some ⟨x.g, 0, none⟩)] 78]) (fun _ => (by exact O2.sel [0, 1, 2, 3] (by decide))) ?_
 refine gx_take 7 rfl (by kernel_rfl) H16 (by exact O2.sel [0, 1, 2, 3] (by decide)) (want_none rfl) rfl (by decide) (fun wq HO => (op_field (gwfld81_1 _ _) rfl (H16.ev rfl))) ?_
 intro _ H18; clear H16
 refine gx_step 8 rfl (by kernel_rfl) ?_
 refine gw_set 2 H18 O2 rfl (want_none rfl) rfl (op_store1 gwsiz3 rfl (H18.ev rfl) (H18.ev rfl) rfl (blk_at (O2.get 2 rfl) rfl) (blkf (O2.get 2 rfl))) ?_
 intro _ w21 H20 O22; clear H18 O2
 have O23 : Own w0 w21 [R, Bk gd [.map (some gm), J d.most, J d.used, J d.fuse, .bool d.down] 76, Bk x.g [.slice x.A x.p.b.length x.c, J (x.p.b.length : Int)] 81, Bk bf [.pointer (some ⟨x.g, 0, none⟩)] 78] := O22
 clear O22
 refine gx_on (i := 8) (B := (fun j_ => j_ == 8)) (M := [R, Bk gd [.map (some gm), J d.most, J d.used, J d.fuse, .bool d.down] 76, Bk x.g [.slice x.A x.p.b.length x.c, J x.p.sf] 81, Bk bf [.pointer (some ⟨x.g, 0, none⟩)] 78]) (fun h_ => by cases h_) ?_
 refine gx_done (by kernel_rfl) ?_
 refine gw_end0 H20 rfl ?_
 exact ⟨rfl, O23.sel [0, 2, 1] (by decide)⟩
set_option maxHeartbeats 4000000 in
set_option maxRecDepth 100000 in
theorem sync_calls (w0 w : World) (R : Chunk) (gd : Nat) (S : Nat → Prop) (d : PD) (nm : ByteArray) (hw : wfD d) (hn : nm.size ≤ 9223372036854775807) (HO : Own w0 w [R, Chunk.disk w0.heap.size gd S d]) :
    Calls Try.prog 16 #[.pointer (some ⟨gd, 0, none⟩), .string nm] w fun e w' => e = .returned (.int .i64 (syncD nm d).2) ∧ ∃ S', Own w0 w' [R, Chunk.disk w0.heap.size gd S' (syncD nm d).1] := by
 have hu0 := hw.used
 have hm0 := hw.most
 have hfu := hw.fuse
 obtain ⟨gm, xs, hxs, hon, HO⟩ := disk_open2 HO
 refine gw_startO (N := 19) (vs := [.pointer (some ⟨gd, 0, none⟩), .string nm]) Try.func16 rfl rfl (by simp) fun a HF => ?_
 rcases look3 nm d hxs hon with hdn | ⟨hdn, hl, hgd, hno⟩ | ⟨hdn, pre, x, post, rfl, hnm, hl, hgd, hoth⟩
 ·
  refine gw_seq fun K1 hK1 => ?_
  refine wp_region_lit ?_
  refine V HF (op_assign rfl (ev_c _ _)) ?_
  intro _ H3; clear HF
  refine wpList_nil ?_
  refine gw_nx (hK1 _ _ ?_)
  refine gw_seq fun K4 hK4 => ?_
  refine wp_region_lit ?_
  refine V H3 (op_move rfl (H3.ev rfl)) ?_
  intro _ H6; clear H3
  refine V H6 (op_move rfl (H6.ev rfl)) ?_
  intro _ H8; clear H6
  refine gw_call H8 (want_none rfl) rfl (by decide) (op_callL Try.func42 (by kernel_rfl) rfl rfl (ar_cons (H8.ev rfl) (ar_cons (H8.ev rfl) ar_nil))) (find_down gd gm d nm (xs.map XF.ent) _ (by exact HO.get 1 rfl) (HO.get 2 rfl) hdn hn) ?_
  rintro e9 w10 ⟨rfl, hb11⟩
  refine ⟨_, rfl, fun _ H13 => ?_⟩
  have O14 := HO.after hb11
  clear H8 HO hb11
  refine V H13 (op_move rfl (H13.ev rfl)) ?_
  intro _ H17; clear H13
  refine V H17 (op_extract rfl (H17.ev rfl) rfl) ?_
  intro _ H19; clear H17
  refine V H19 (op_extract rfl (H19.ev rfl) rfl) ?_
  intro _ H21; clear H19
  refine gw_new H21 O14 (want_none rfl) rfl (by decide) (op_alloc gwzer78 rfl) ?_
  intro g22 _ w24 H25 O26; clear H21 O14
  have O27 : Own w0 w24 [Bk g22 [.pointer none] 78, R, Bk gd [.map (some gm), J d.most, J d.used, J d.fuse, .bool d.down] 76, Chunk.lmap Try.prog 9 gm (xs.map XF.ent), Chunk.files w0.heap.size xs] := O26
  clear O26
  refine gw_set 0 H25 O27 rfl (want_none rfl) rfl (op_store1 gwsiz78 rfl (H25.ev rfl) (H25.ev rfl) rfl (blk_at (O27.get 0 rfl) rfl) (blkf (O27.get 0 rfl))) ?_
  intro _ w30 H29 O31; clear H25 O27
  have O32 : Own w0 w30 [Bk g22 [.pointer none] 78, R, Bk gd [.map (some gm), J d.most, J d.used, J d.fuse, .bool d.down] 76, Chunk.lmap Try.prog 9 gm (xs.map XF.ent), Chunk.files w0.heap.size xs] := O31
  clear O31
  refine V H29 (op_assign rfl (H29.ev rfl)) ?_
  intro _ H34; clear H29
  refine wpList_nil ?_
  refine gw_nx (hK4 _ _ ?_)
  refine gw_seq fun K35 hK35 => ?_
  refine gw_seq fun K36 hK36 => ?_
  refine wp_region_lit ?_
  refine V H34 (op_move rfl (H34.ev rfl)) ?_
  intro _ H38; clear H34
  refine V H38 (op_nei rfl (H38.ev rfl) (ev_c _ _)) ?_
  intro _ H40; clear H38
  have H41 := H40.lit (b := true) (by decide)
  clear H40
  refine wpList_nil ?_
  refine gw_nx (hK36 _ _ ?_)
  refine gw_cond H41 rfl (fun hb42 => ?_) (fun hb42 => ?_)
  rotate_left
  ·
   cases hb42
  refine gw_seq fun K43 hK43 => ?_
  refine wp_region_lit ?_
  refine V H41 (op_move rfl (H41.ev rfl)) ?_
  intro _ H45; clear H41
  refine V H45 (op_assign rfl (H45.ev rfl)) ?_
  intro _ H47; clear H45
  refine wpList_nil ?_
  refine gw_nx (hK43 _ _ ?_)
  refine wp_ret ?_
  refine gw_thr ?_
  refine gw_ret1 H47 rfl rfl ?_
  exact disk_fin (gd := gd) (gm := gm) (d' := d) (xs := xs) (with_down hdn) hxs (by exact O32.sel [1, 2, 3, 4] (by decide))
 ·
  refine gw_seq fun K48 hK48 => ?_
  refine wp_region_lit ?_
  refine V HF (op_assign rfl (ev_c _ _)) ?_
  intro _ H50; clear HF
  refine wpList_nil ?_
  refine gw_nx (hK48 _ _ ?_)
  refine gw_seq fun K51 hK51 => ?_
  refine wp_region_lit ?_
  refine V H50 (op_move rfl (H50.ev rfl)) ?_
  intro _ H53; clear H50
  refine V H53 (op_move rfl (H53.ev rfl)) ?_
  intro _ H55; clear H53
  refine gw_call H55 (want_none rfl) rfl (by decide) (op_callL Try.func42 (by kernel_rfl) rfl rfl (ar_cons (H55.ev rfl) (ar_cons (H55.ev rfl) ar_nil))) (find_none gd gm d nm (xs.map XF.ent) _ (by exact HO.get 1 rfl) (HO.get 2 rfl) hdn hl hn) ?_
  rintro e56 w57 ⟨rfl, hb58⟩
  refine ⟨_, rfl, fun _ H60 => ?_⟩
  have O61 := HO.after hb58
  clear H55 HO hb58
  refine V H60 (op_move rfl (H60.ev rfl)) ?_
  intro _ H64; clear H60
  refine V H64 (op_extract rfl (H64.ev rfl) rfl) ?_
  intro _ H66; clear H64
  refine V H66 (op_extract rfl (H66.ev rfl) rfl) ?_
  intro _ H68; clear H66
  refine gw_new H68 O61 (want_none rfl) rfl (by decide) (op_alloc gwzer78 rfl) ?_
  intro g69 _ w71 H72 O73; clear H68 O61
  have O74 : Own w0 w71 [Bk g69 [.pointer none] 78, R, Bk gd [.map (some gm), J d.most, J d.used, J d.fuse, .bool d.down] 76, Chunk.lmap Try.prog 9 gm (xs.map XF.ent), Chunk.files w0.heap.size xs] := O73
  clear O73
  refine gw_set 0 H72 O74 rfl (want_none rfl) rfl (op_store1 gwsiz78 rfl (H72.ev rfl) (H72.ev rfl) rfl (blk_at (O74.get 0 rfl) rfl) (blkf (O74.get 0 rfl))) ?_
  intro _ w77 H76 O78; clear H72 O74
  have O79 : Own w0 w77 [Bk g69 [.pointer none] 78, R, Bk gd [.map (some gm), J d.most, J d.used, J d.fuse, .bool d.down] 76, Chunk.lmap Try.prog 9 gm (xs.map XF.ent), Chunk.files w0.heap.size xs] := O78
  clear O78
  refine V H76 (op_assign rfl (H76.ev rfl)) ?_
  intro _ H81; clear H76
  refine wpList_nil ?_
  refine gw_nx (hK51 _ _ ?_)
  refine gw_seq fun K82 hK82 => ?_
  refine gw_seq fun K83 hK83 => ?_
  refine wp_region_lit ?_
  refine V H81 (op_move rfl (H81.ev rfl)) ?_
  intro _ H85; clear H81
  refine V H85 (op_nei rfl (H85.ev rfl) (ev_c _ _)) ?_
  intro _ H87; clear H85
  have H88 := H87.lit (b := true) (by decide)
  clear H87
  refine wpList_nil ?_
  refine gw_nx (hK83 _ _ ?_)
  refine gw_cond H88 rfl (fun hb89 => ?_) (fun hb89 => ?_)
  rotate_left
  ·
   cases hb89
  refine gw_seq fun K90 hK90 => ?_
  refine wp_region_lit ?_
  refine V H88 (op_move rfl (H88.ev rfl)) ?_
  intro _ H92; clear H88
  refine V H92 (op_assign rfl (H92.ev rfl)) ?_
  intro _ H94; clear H92
  refine wpList_nil ?_
  refine gw_nx (hK90 _ _ ?_)
  refine wp_ret ?_
  refine gw_thr ?_
  refine gw_ret1 H94 rfl rfl ?_
  exact disk_fin (gd := gd) (gm := gm) (d' := d) (xs := xs) (with_none hdn hgd) hxs (by exact O79.sel [1, 2, 3, 4] (by decide))
 ·
  have HO := Own.sel (Own.file_open (Own.sel HO [3, 0, 1, 2] (by decide))) [3, 4, 5, 0, 1, 2] (by decide)
  have hxl := wf_len hw (getF_mem hgd).1
  have hxs1 := hw.sf _ (getF_mem hgd).1
  have O95 : Own w0 w [R, Bk gd [.map (some gm), J d.most, J d.used, J d.fuse, .bool d.down] 76, Chunk.lmap Try.prog 9 gm ((pre ++ x :: post).map XF.ent), Bk x.g [.slice x.A x.p.b.length x.c, J x.p.sf] 81, Chunk.row (Kd.int .u8) 5 w0.heap.size x.S (.slice x.A x.p.b.length x.c) x.p.b, Chunk.files w0.heap.size (pre ++ post)] := HO
  clear HO
  refine gw_seq fun K96 hK96 => ?_
  refine wp_region_lit ?_
  refine V HF (op_assign rfl (ev_c _ _)) ?_
  intro _ H98; clear HF
  refine wpList_nil ?_
  refine gw_nx (hK96 _ _ ?_)
  refine gw_seq fun K99 hK99 => ?_
  refine wp_region_lit ?_
  refine V H98 (op_move rfl (H98.ev rfl)) ?_
  intro _ H101; clear H98
  refine V H101 (op_move rfl (H101.ev rfl)) ?_
  intro _ H103; clear H101
  refine gw_call H103 (want_none rfl) rfl (by decide) (op_callL Try.func42 (by kernel_rfl) rfl rfl (ar_cons (H103.ev rfl) (ar_cons (H103.ev rfl) ar_nil))) (find_some gd gm d nm ((pre ++ x :: post).map XF.ent) x.g _ (by exact O95.get 1 rfl) (O95.get 2 rfl) hdn hl hn) ?_
  rintro e104 w105 ⟨rfl, hb106⟩
  refine ⟨_, rfl, fun _ H108 => ?_⟩
  have O109 := O95.after hb106
  clear H103 O95 hb106
  refine V H108 (op_move rfl (H108.ev rfl)) ?_
  intro _ H112; clear H108
  refine V H112 (op_extract rfl (H112.ev rfl) rfl) ?_
  intro _ H114; clear H112
  refine V H114 (op_extract rfl (H114.ev rfl) rfl) ?_
  intro _ H116; clear H114
  refine gw_new H116 O109 (want_none rfl) rfl (by decide) (op_alloc gwzer78 rfl) ?_
  intro g117 _ w119 H120 O121; clear H116 O109
  have O122 : Own w0 w119 [Bk g117 [.pointer none] 78, R, Bk gd [.map (some gm), J d.most, J d.used, J d.fuse, .bool d.down] 76, Chunk.lmap Try.prog 9 gm ((pre ++ x :: post).map XF.ent), Bk x.g [.slice x.A x.p.b.length x.c, J x.p.sf] 81, Chunk.row (Kd.int .u8) 5 w0.heap.size x.S (.slice x.A x.p.b.length x.c) x.p.b, Chunk.files w0.heap.size (pre ++ post)] := O121
  clear O121
  refine gw_set 0 H120 O122 rfl (want_none rfl) rfl (op_store1 gwsiz78 rfl (H120.ev rfl) (H120.ev rfl) rfl (blk_at (O122.get 0 rfl) rfl) (blkf (O122.get 0 rfl))) ?_
  intro _ w125 H124 O126; clear H120 O122
  have O127 : Own w0 w125 [Bk g117 [.pointer (some ⟨x.g, 0, none⟩)] 78, R, Bk gd [.map (some gm), J d.most, J d.used, J d.fuse, .bool d.down] 76, Chunk.lmap Try.prog 9 gm ((pre ++ x :: post).map XF.ent), Bk x.g [.slice x.A x.p.b.length x.c, J x.p.sf] 81, Chunk.row (Kd.int .u8) 5 w0.heap.size x.S (.slice x.A x.p.b.length x.c) x.p.b, Chunk.files w0.heap.size (pre ++ post)] := O126
  clear O126
  refine V H124 (op_assign rfl (H124.ev rfl)) ?_
  intro _ H129; clear H124
  refine wpList_nil ?_
  refine gw_nx (hK99 _ _ ?_)
  refine gw_seq fun K130 hK130 => ?_
  refine gw_seq fun K131 hK131 => ?_
  refine wp_region_lit ?_
  refine V H129 (op_move rfl (H129.ev rfl)) ?_
  intro _ H133; clear H129
  refine V H133 (op_nei rfl (H133.ev rfl) (ev_c _ _)) ?_
  intro _ H135; clear H133
  have H136 := H135.lit (b := false) (by decide)
  clear H135
  refine wpList_nil ?_
  refine gw_nx (hK131 _ _ ?_)
  refine gw_cond H136 rfl (fun hb137 => ?_) (fun hb137 => ?_)
  skip
  ·
   cases hb137
  refine wp_skip ?_
  refine gw_nx (hK130 _ _ ?_)
  refine gw_seq fun K138 hK138 => ?_
  refine wp_region_lit ?_
  refine V H136 (op_move rfl (H136.ev rfl)) ?_
  intro _ H140; clear H136
  refine V H140 (op_func rfl (ar_cons (H140.ev rfl) ar_nil)) ?_
  intro _ H142; clear H140
  have O149 : Own w0 _ [(Chunk.all [Bk g117 [.pointer (some ⟨x.g, 0, none⟩)] 78, R, Chunk.lmap Try.prog 9 gm ((pre ++ x :: post).map XF.ent), Bk x.g [.slice x.A x.p.b.length x.c, J x.p.sf] 81, Chunk.row (Kd.int .u8) 5 w0.heap.size x.S (.slice x.A x.p.b.length x.c) x.p.b, Chunk.files w0.heap.size (pre ++ post)]), Bk gd [.map (some gm), J d.most, J d.used, J d.fuse, .bool d.down] 76] := Own.bundle (A := [Bk g117 [.pointer (some ⟨x.g, 0, none⟩)] 78, R, Chunk.lmap Try.prog 9 gm ((pre ++ x :: post).map XF.ent), Bk x.g [.slice x.A x.p.b.length x.c, J x.p.sf] 81, Chunk.row (Kd.int .u8) 5 w0.heap.size x.S (.slice x.A x.p.b.length x.c) x.p.b, Chunk.files w0.heap.size (pre ++ post)]) (L := [Bk gd [.map (some gm), J d.most, J d.used, J d.fuse, .bool d.down] 76]) (O127.sel [0, 1, 3, 4, 5, 6, 2] (by decide))
  refine gw_call H142 (want_none rfl) rfl (by decide) (op_callL Try.func40 (by kernel_rfl) rfl rfl (ar_cons (H142.ev rfl) (ar_cons (H142.ev rfl) ar_nil))) (step_calls w0 _ (Chunk.all [Bk g117 [.pointer (some ⟨x.g, 0, none⟩)] 78, R, Chunk.lmap Try.prog 9 gm ((pre ++ x :: post).map XF.ent), Bk x.g [.slice x.A x.p.b.length x.c, J x.p.sf] 81, Chunk.row (Kd.int .u8) 5 w0.heap.size x.S (.slice x.A x.p.b.length x.c) x.p.b, Chunk.files w0.heap.size (pre ++ post)]) gd gm d 44 _ [.pointer (some ⟨g117, 0, none⟩)] (fun w_ => Own w0 w_ [(Chunk.all [R, Chunk.lmap Try.prog 9 gm ((pre ++ x :: post).map XF.ent), Chunk.row (Kd.int .u8) 5 w0.heap.size x.S (.slice x.A x.p.b.length x.c) x.p.b, Chunk.files w0.heap.size (pre ++ post)]), Bk x.g [.slice x.A x.p.b.length x.c, J (x.p.b.length : Int)] 81, Bk gd [.map (some gm), J (({ d with fuse := decF d.fuse } : PD).most), J (({ d with fuse := decF d.fuse } : PD).used), J (({ d with fuse := decF d.fuse } : PD).fuse), .bool (({ d with fuse := decF d.fuse } : PD).down)] 76]) Try.func44 (by kernel_rfl) rfl hfu (fun hf1 w1 h_ => sync1 w0 w1 (Chunk.all [R, Chunk.lmap Try.prog 9 gm ((pre ++ x :: post).map XF.ent), Chunk.row (Kd.int .u8) 5 w0.heap.size x.S (.slice x.A x.p.b.length x.c) x.p.b, Chunk.files w0.heap.size (pre ++ post)]) gd gm ({ d with fuse := decF d.fuse } : PD) x g117 (Own.bundle (A := [R, Chunk.lmap Try.prog 9 gm ((pre ++ x :: post).map XF.ent), Chunk.row (Kd.int .u8) 5 w0.heap.size x.S (.slice x.A x.p.b.length x.c) x.p.b, Chunk.files w0.heap.size (pre ++ post)]) (L := [Bk gd [.map (some gm), J (({ d with fuse := decF d.fuse } : PD).most), J (({ d with fuse := decF d.fuse } : PD).used), J (({ d with fuse := decF d.fuse } : PD).fuse), .bool (({ d with fuse := decF d.fuse } : PD).down)] 76, Bk x.g [.slice x.A x.p.b.length x.c, J x.p.sf] 81, Bk g117 [.pointer (some ⟨x.g, 0, none⟩)] 78]) ((Own.unbundle (A := [Bk g117 [.pointer (some ⟨x.g, 0, none⟩)] 78, R, Chunk.lmap Try.prog 9 gm ((pre ++ x :: post).map XF.ent), Bk x.g [.slice x.A x.p.b.length x.c, J x.p.sf] 81, Chunk.row (Kd.int .u8) 5 w0.heap.size x.S (.slice x.A x.p.b.length x.c) x.p.b, Chunk.files w0.heap.size (pre ++ post)]) (L := [Bk gd [.map (some gm), J (({ d with fuse := decF d.fuse } : PD).most), J (({ d with fuse := decF d.fuse } : PD).used), J (({ d with fuse := decF d.fuse } : PD).fuse), .bool (({ d with fuse := decF d.fuse } : PD).down)] 76]) (by exact h_)).sel [1, 2, 4, 5, 6, 3, 0] (by decide)))) (by exact O149)) ?_
  rintro e143 w144 (⟨hf1, rfl, hb145⟩ | ⟨hf1, rfl, hb145⟩)
  ·
   refine ⟨_, rfl, fun _ H147 => ?_⟩
   have O148 : Own w0 w144 [Bk g117 [.pointer (some ⟨x.g, 0, none⟩)] 78, R, Chunk.lmap Try.prog 9 gm ((pre ++ x :: post).map XF.ent), Bk x.g [.slice x.A x.p.b.length x.c, J x.p.sf] 81, Chunk.row (Kd.int .u8) 5 w0.heap.size x.S (.slice x.A x.p.b.length x.c) x.p.b, Chunk.files w0.heap.size (pre ++ post), Bk gd [.map (some gm), J d.most, J d.used, J 0, .bool true] 76] := Own.unbundle (A := [Bk g117 [.pointer (some ⟨x.g, 0, none⟩)] 78, R, Chunk.lmap Try.prog 9 gm ((pre ++ x :: post).map XF.ent), Bk x.g [.slice x.A x.p.b.length x.c, J x.p.sf] 81, Chunk.row (Kd.int .u8) 5 w0.heap.size x.S (.slice x.A x.p.b.length x.c) x.p.b, Chunk.files w0.heap.size (pre ++ post)]) (L := [Bk gd [.map (some gm), J d.most, J d.used, J 0, .bool true] 76]) (by exact hb145)
   clear O149 hb145
   clear H142 O127
   refine V H147 (op_assign rfl (H147.ev rfl)) ?_
   intro _ H151; clear H147
   refine wpList_nil ?_
   refine gw_nx (hK138 _ _ ?_)
   refine wp_ret ?_
   refine gw_ret1 H151 rfl rfl ?_
   have O152 := Own.file_close (x := x) (pre := pre) (post := post) (by exact O148.sel [3, 4, 5, 0, 1, 2, 6] (by decide))
   exact disk_fin (gd := gd) (gm := gm) (d' := { d with fuse := 0, down := true }) (xs := pre ++ x :: post) ((sync_go hdn hgd).trans (step_off hf1)) hxs (by exact O152.sel [2, 4, 3, 0] (by decide))
  ·
   refine ⟨_, rfl, fun _ H147 => ?_⟩
   have O148 : Own w0 w144 [R, Chunk.lmap Try.prog 9 gm ((pre ++ x :: post).map XF.ent), Chunk.row (Kd.int .u8) 5 w0.heap.size x.S (.slice x.A x.p.b.length x.c) x.p.b, Chunk.files w0.heap.size (pre ++ post), Bk x.g [.slice x.A x.p.b.length x.c, J (x.p.b.length : Int)] 81, Bk gd [.map (some gm), J (({ d with fuse := decF d.fuse } : PD).most), J (({ d with fuse := decF d.fuse } : PD).used), J (({ d with fuse := decF d.fuse } : PD).fuse), .bool (({ d with fuse := decF d.fuse } : PD).down)] 76] := Own.unbundle (A := [R, Chunk.lmap Try.prog 9 gm ((pre ++ x :: post).map XF.ent), Chunk.row (Kd.int .u8) 5 w0.heap.size x.S (.slice x.A x.p.b.length x.c) x.p.b, Chunk.files w0.heap.size (pre ++ post)]) (L := [Bk x.g [.slice x.A x.p.b.length x.c, J (x.p.b.length : Int)] 81, Bk gd [.map (some gm), J (({ d with fuse := decF d.fuse } : PD).most), J (({ d with fuse := decF d.fuse } : PD).used), J (({ d with fuse := decF d.fuse } : PD).fuse), .bool (({ d with fuse := decF d.fuse } : PD).down)] 76]) hb145
   clear O149 hb145
   clear H142 O127
   refine V H147 (op_assign rfl (H147.ev rfl)) ?_
   intro _ H154; clear H147
   refine wpList_nil ?_
   refine gw_nx (hK138 _ _ ?_)
   refine wp_ret ?_
   refine gw_ret1 H154 rfl rfl ?_
   have O155 := Own.file_close (x := (⟨⟨x.p.nm, x.p.b, (x.p.b.length : Int)⟩, x.g, x.A, x.c, x.S⟩ : XF)) (pre := pre) (post := post) (by exact O148.sel [4, 2, 3, 0, 1, 5] (by decide))
   have el_ : (pre ++ x :: post).map XF.ent = (pre ++ (⟨⟨x.p.nm, x.p.b, (x.p.b.length : Int)⟩, x.g, x.A, x.c, x.S⟩ : XF) :: post).map XF.ent := by simp [XF.ent]
   rw [el_] at O155
   exact disk_fin (gd := gd) (gm := gm) (d' := _) (xs := pre ++ (⟨⟨x.p.nm, x.p.b, (x.p.b.length : Int)⟩, x.g, x.A, x.c, x.S⟩ : XF) :: post) ((sync_go hdn hgd).trans (step_on hf1 hfu.1)) (by show _ = updF nm _ d.fs; rw [← hxs, upd_mid hnm hoth]; simp) (by exact O155.sel [1, 3, 2, 0] (by decide))
end GVfs2_
export GVfs2_ (append1 append_calls sync1 sync_calls)
end Go.Proofs.Ytkdahjnmldeklaa.PA
end
