/- Reading. Printed by a program of this session; Lean checks it. -/
import Derived.Test.YtmlemnfleicnfaaHRead
namespace Go.Proofs.Ytmlemnfleicnfaa.PA
open Go.RowKit Go.Proofs.YtmlemnfleicnfaaW.PrintWords Go.Proofs.YtmlemnfleicnfaaW.PrintLast Go.Proofs.YtmlemnfleicnfaaW.PrintMore
set_option linter.unusedVariables false
set_option linter.unusedSimpArgs false
namespace GRead_
theorem gwagg22 : ∀ w, (isAgg 22).run Try.prog w = .ok false w := fun _ => by kernel_rfl
theorem gwagg38 : ∀ w, (isAgg 38).run Try.prog w = .ok false w := fun _ => by kernel_rfl
theorem gwagg5 : ∀ w, (isAgg 5).run Try.prog w = .ok false w := fun _ => by kernel_rfl
theorem gwfld80_0 (g off : Nat) : ∀ w, (Instr.fieldAt 80 (.pointer (some ⟨g, off, none⟩)) 0).run Try.prog w = .ok (.pointer (some ⟨g, off + 0, none⟩)) w := fun _ => by kernel_rfl
theorem gwsiz22 : ∀ w, (sizeOf 22).run Try.prog w = .ok 1 w := fun _ => by kernel_rfl
theorem gwsiz38 : ∀ w, (sizeOf 38).run Try.prog w = .ok 1 w := fun _ => by kernel_rfl
theorem gwsiz5 : ∀ w, (sizeOf 5).run Try.prog w = .ok 1 w := fun _ => by kernel_rfl
theorem gwsiz78 : ∀ w, (sizeOf 78).run Try.prog w = .ok 0 w := fun _ => by kernel_rfl
theorem gwzer38 : ∀ w, (zeroValue 38).run Try.prog w = .ok (.int .i64 0) w := fun _ => by kernel_rfl
theorem gwzer78 : ∀ w, (zeroValue 78).run Try.prog w = .ok (.agg #[]) w := fun _ => by kernel_rfl
set_option maxHeartbeats 4000000 in
set_option maxRecDepth 100000 in
theorem need_calls (ad : Addr) (b : Bool) (w : World) :
    Calls Try.prog 33 #[.pointer (some ad), .bool b] w fun e w' => (b = true ∧ e = .returned (.tuple #[]) ∧ Below w.heap.size w w') ∨ (b = false ∧ e = .panicked [{ v := .iface 78 (.agg #[]), recovered := false }] ∧ Below w.heap.size w w') := by
  refine gw_start (N := 8) (vs := [.pointer (some ad), .bool b]) Try.func33 rfl rfl (by simp) fun a HF HO => ?_
  replace HO : Own w w [] := HO
  refine gw_seq fun K1 hK1 => ?_
  refine wp_region_lit ?_
  refine gw_ev HF (want_none rfl) rfl (by decide) (op_move rfl (HF.ev rfl)) ?_
  intro a2 HF3; clear HF
  refine gw_ev HF3 (want_none rfl) rfl (by decide) (op_not rfl (HF3.ev rfl)) ?_
  intro a4 HF5; clear HF3
  refine wpList_nil ?_
  refine gw_nx (hK1 _ _ ?_)
  refine gw_cond HF5 rfl (fun hb6 => ?_) (fun hb6 => ?_)
  · skip
    have HF7 := HF5.subst_ (d := 5) (b := true) rfl hb6
    clear HF5
    (try simp only [Bool.and_eq_true, Bool.or_eq_true, Bool.and_eq_false_iff, Bool.or_eq_false_iff, Bool.not_and, Bool.not_or, Bool.not_not, decide_eq_true_eq, decide_eq_false_iff_not, Bool.not_eq_true', Bool.not_eq_false', Bool.not_eq_true, Bool.not_eq_false, ne_eq, Decidable.not_not, Int.not_lt, Int.not_le, not_true_eq_false, not_false_eq_true, bne_iff_ne, beq_iff_eq, bne_eq_false_iff_eq, beq_eq_false_iff_ne] at hb6)
    refine wp_region_lit ?_
    refine gw_ev HF7 (want_none rfl) rfl (by decide) (op_build (cells := #[]) rfl pt_nil (by kernel_rfl)) ?_
    intro a8 HF9; clear HF7
    refine gw_ev HF9 (want_none rfl) rfl (by decide) (op_iface (fun _ => by first | rfl | kernel_rfl) rfl (HF9.ev rfl)) ?_
    intro a10 HF11; clear HF9
    refine gw_panic (want_none rfl) (panics_ rfl (HF11.ev rfl)) ?_
    refine gw_pan HF11 ?_
    exact .inr ⟨by simp_all, rfl, HO.below⟩
  · skip
    have HF12 := HF5.subst_ (d := 5) (b := false) rfl hb6
    clear HF5
    (try simp only [Bool.and_eq_true, Bool.or_eq_true, Bool.and_eq_false_iff, Bool.or_eq_false_iff, Bool.not_and, Bool.not_or, Bool.not_not, decide_eq_true_eq, decide_eq_false_iff_not, Bool.not_eq_true', Bool.not_eq_false', Bool.not_eq_true, Bool.not_eq_false, ne_eq, Decidable.not_not, Int.not_lt, Int.not_le, not_true_eq_false, not_false_eq_true, bne_iff_ne, beq_iff_eq, bne_eq_false_iff_eq, beq_eq_false_iff_ne] at hb6)
    refine wp_skip ?_
    refine gw_end0 HF12 rfl ?_
    exact .inl ⟨by simp_all, rfl, HO.below⟩
set_option maxHeartbeats 4000000 in
set_option maxRecDepth 100000 in
theorem num_calls (w0 w : World) (R : Chunk) (g : Nat) (A : Option Addr) (c : Nat) (xs : List Int) (hx : ∀ w_, Own w0 w_ [R] → Kd.C (Kd.int .u8) w_ A xs.length xs) (hc : xs.length ≤ c) (hb : ByteL xs) (HO : Own w0 w [R, Chunk.blk g (.cells #[.slice A xs.length c] 80 (0, 0))]) :
    Calls Try.prog 35 #[.pointer (some ⟨g, 0, none⟩)] w fun e w' => (∃ n k A' c', gnum xs = some (n, k) ∧ e = .returned (.int .i64 n) ∧ (∀ W, Kd.C (Kd.int .u8) W A xs.length xs → Kd.C (Kd.int .u8) W A' (xs.drop k).length (xs.drop k)) ∧ (xs.drop k).length ≤ c' ∧ Own w0 w' [R, Chunk.blk g (.cells #[.slice A' (xs.drop k).length c'] 80 (0, 0))]) ∨ (gnum xs = none ∧ e = .panicked [{ v := .iface 78 (.agg #[]), recovered := false }] ∧ Own w0 w' [R]) := by
  refine gw_startO (N := 57) (vs := [.pointer (some ⟨g, 0, none⟩)]) Try.func35 rfl rfl (by simp) fun a HF => ?_
  refine gw_seq fun K1 hK1 => ?_
  refine wp_region_lit ?_
  refine gw_ev HF (want_none rfl) rfl (by decide) (op_assign rfl (ev_c _ _)) ?_
  intro a2 HF3; clear HF
  refine wpList_nil ?_
  refine gw_nx (hK1 _ _ ?_)
  refine gw_seq fun K4 hK4 => ?_
  refine wp_region_lit ?_
  refine gw_ev HF3 (want_none rfl) rfl (by decide) (op_assign rfl (ev_c _ _)) ?_
  intro a5 HF6; clear HF3
  refine wpList_nil ?_
  refine gw_nx (hK4 _ _ ?_)
  refine gw_seq fun K7 hK7 => ?_
  refine wp_region_lit ?_
  refine gw_ev HF6 (want_none rfl) rfl (by decide) (op_assign rfl (ev_c _ _)) ?_
  intro a8 HF9; clear HF6
  refine wpList_nil ?_
  refine gw_nx (hK7 _ _ ?_)
  refine wp_block ?_
  refine gw_loop (fun m_ a_ w_ => ∃ (j : Int) (A' : Option Addr) (c' : Nat), Fr 57 a_ [(3, .int .u64 (valN xs j.toNat)), (4, .int .i64 (7 * j)), (0, .pointer (some ⟨g, 0, none⟩))] ∧ Own w0 w_ [R, Chunk.blk g (.cells #[.slice A' ((xs.drop j.toNat).length) c'] 80 (0, 0))] ∧ (0 ≤ j ∧ j ≤ 9 ∧ j ≤ xs.length) ∧ (gnum xs = gnumFrom xs (10 - j.toNat) j.toNat) ∧ (∀ W, Kd.C (Kd.int .u8) W A xs.length xs → Kd.C (Kd.int .u8) W A' (xs.drop j.toNat).length (xs.drop j.toNat)) ∧ ((xs.drop j.toNat).length ≤ c') ∧ m_ = (9 - j.toNat)) ((9 - (0 : Int).toNat)) ?_ ?_
  · refine ⟨0, A, c, (HF9.pick (t := 3) rfl (HF9.pick (t := 4) rfl (HF9.pick (t := 0) rfl HF9.nil))), HO.sel [0, 1] (by decide), ?_, ?_, ?_, ?_, rfl⟩
    · (first | omega | (simp only [List.length_drop] at *; omega))
    · rfl
    · intro W h; exact h
    · exact hc
  · rintro m11 a12 w13 ⟨j, A', c', HF14, HO15, hj, hg, hC, hcap, hm16⟩
    refine gw_seq fun K17 hK17 => ?_
    refine wp_block ?_
    refine gw_seq fun K18 hK18 => ?_
    refine wp_region_lit ?_
    refine gw_ev HF14 (want_none rfl) rfl (by decide) (op_move rfl (HF14.ev rfl)) ?_
    intro a19 HF20; clear HF14
    refine gw_ev HF20 (want_none rfl) rfl (by decide) (op_move rfl (HF20.ev rfl)) ?_
    intro a21 HF22; clear HF20
    refine gw_ev HF22 (want_none rfl) rfl (by decide) (op_nil rfl (HF22.ev rfl)) ?_
    intro a23 HF24; clear HF22
    refine gw_ev HF24 (want_none rfl) rfl (by decide) (op_field (gwfld80_0 _ _) rfl (HF24.ev rfl)) ?_
    intro a25 HF26; clear HF24
    refine gw_ev HF26 (want_none rfl) rfl (by decide) (op_load1 gwagg22 rfl (HF26.ev rfl) (blk_at (HO15.get 1 rfl) rfl)) ?_
    intro a27 HF28; clear HF26
    refine gw_ev HF28 (want_none rfl) rfl (by decide) (op_len Try.underlying22 rfl (HF28.ev rfl)) ?_
    intro a29 HF30; clear HF28
    refine gw_ev HF30 (want_none rfl) rfl (by decide) (op_gtr rfl (HF30.ev rfl) (ev_c _ _)) ?_
    intro a31 HF32; clear HF30
    refine gw_ev HF32 (want_none rfl) rfl (by decide) (op_move rfl (HF32.ev rfl)) ?_
    intro a33 HF34; clear HF32
    refine gw_evG HF34 rfl rfl rfl rfl (on_t _) rfl (by decide) (fun h_ => (op_move rfl (HF34.ev rfl))) ?_
    intro a35 HF36; clear HF34
    refine gw_evG HF36 rfl rfl rfl rfl (on_t _) rfl (by decide) (fun h_ => (op_lss rfl (ev_gv (HF36.ev rfl) h_) (ev_c _ _))) ?_
    intro a37 HF38; clear HF36
    refine gw_ev HF38 (want_none rfl) rfl (by decide) (op_pick_and rfl (HF38.ev rfl) (fun hp_ => (ev_gv (HF38.ev rfl) hp_)) (ev_c _ _)) ?_
    intro a39 HF40; clear HF38
    refine gw_callP HF40 (want_none rfl) rfl (by decide) (op_callL Try.func33 (by kernel_rfl) rfl rfl (ar_cons (HF40.ev rfl) (ar_cons (HF40.ev rfl) ar_nil))) (GRead_.need_calls ⟨g, 0, none⟩ ((decide (0 < (((xs.drop j.toNat).length) : Int))) && (decide ((7 * j) < 63))) _) ?_
    rintro e42 w43 (⟨hn41, rfl, hb44⟩ | ⟨hn41, rfl, hb44⟩)
    rotate_left
    · skip
      refine .inr ⟨_, rfl, ?_⟩
      have HO48 := HO15.after hb44
      (try simp only [Bool.and_eq_true, Bool.or_eq_true, Bool.and_eq_false_iff, Bool.or_eq_false_iff, Bool.not_and, Bool.not_or, Bool.not_not, decide_eq_true_eq, decide_eq_false_iff_not, Bool.not_eq_true', Bool.not_eq_false', Bool.not_eq_true, Bool.not_eq_false, ne_eq, Decidable.not_not, Int.not_lt, Int.not_le, not_true_eq_false, not_false_eq_true, bne_iff_ne, beq_iff_eq, bne_eq_false_iff_eq, beq_eq_false_iff_ne] at hn41)
      refine gw_thp ?_
      refine gw_blp ?_
      refine gw_thp ?_
      refine gw_thp ?_
      refine gw_blp ?_
      refine gw_pan HF40 ?_
      first | exact .inr ⟨gn_out hj.1 hj.2.1 hg (by (first | omega | (simp only [List.length_drop] at *; omega))), rfl, HO48.sel [0] (by decide)⟩ | exact .inr ⟨(by rw [gn_in hj.1 hg (by (first | omega | (simp only [List.length_drop] at *; omega))) (by (first | omega | (simp only [List.length_drop] at *; omega))), if_pos (by (first | omega | (simp only [List.length_drop] at *; omega))), if_neg (by (first | omega | (simp only [List.length_drop] at *; omega)))]), rfl, HO48.sel [0] (by decide)⟩
    refine .inl ⟨_, rfl, fun a45 HF46 => ?_⟩
    have HO47 := HO15.after hb44
    clear HF40 HO15 hb44
    (try simp only [Bool.and_eq_true, Bool.or_eq_true, Bool.and_eq_false_iff, Bool.or_eq_false_iff, Bool.not_and, Bool.not_or, Bool.not_not, decide_eq_true_eq, decide_eq_false_iff_not, Bool.not_eq_true', Bool.not_eq_false', Bool.not_eq_true, Bool.not_eq_false, ne_eq, Decidable.not_not, Int.not_lt, Int.not_le, not_true_eq_false, not_false_eq_true, bne_iff_ne, beq_iff_eq, bne_eq_false_iff_eq, beq_eq_false_iff_ne] at hn41)
    refine wpList_nil ?_
    refine gw_nx (hK18 _ _ ?_)
    refine gw_seq fun K50 hK50 => ?_
    refine wp_region_lit ?_
    refine gw_ev HF46 (want_none rfl) rfl (by decide) (op_move rfl (HF46.ev rfl)) ?_
    intro a51 HF52; clear HF46
    refine gw_ev HF52 (want_none rfl) rfl (by decide) (op_nil rfl (HF52.ev rfl)) ?_
    intro a53 HF54; clear HF52
    refine gw_ev HF54 (want_none rfl) rfl (by decide) (op_field (gwfld80_0 _ _) rfl (HF54.ev rfl)) ?_
    intro a55 HF56; clear HF54
    refine gw_ev HF56 (want_none rfl) rfl (by decide) (op_load1 gwagg22 rfl (HF56.ev rfl) (blk_at (HO47.get 1 rfl) rfl)) ?_
    intro a57 HF58; clear HF56
    obtain ⟨ad59, cs62, hA60, hl63, hK64, hc61⟩ := Kd.C_get (hC _ (hx _ (HO47.sel [0] (by decide)))) (0 : Int) 0 (by (first | omega | (simp only [List.length_drop] at *; omega))) (by (first | omega | (simp only [List.length_drop] at *; omega)))
    obtain rfl := id hK64
    clear hl63
    refine gw_ev HF58 (want_none rfl) rfl (by decide) (op_index Try.underlying22 gwsiz5 rfl (HF58.ev rfl) (ev_c _ _) hA60 (⟨by (first | omega | (simp only [List.length_drop] at *; omega)), by (first | omega | (simp only [List.length_drop] at *; omega))⟩)) ?_
    intro a65 HF66; clear HF58
    have hby := byte_getD hb j.toNat (by (first | omega | (simp only [List.length_drop] at *; omega)))
    refine gw_ev HF66 (want_none rfl) rfl (by decide) (op_load1 gwagg5 rfl (HF66.ev rfl) ((at0 hc61))) ?_
    intro a67 HF68; clear HF66
    have HF69 := HF68.conv (v' := .int .u8 (xs.getD j.toNat 0)) (by rw [getD_drop xs j hj.1])
    clear HF68
    refine gw_ev HF69 (want_none rfl) rfl (by decide) (op_assign rfl (HF69.ev rfl)) ?_
    intro a70 HF71; clear HF69
    refine wpList_nil ?_
    refine gw_nx (hK50 _ _ ?_)
    refine gw_seq fun K72 hK72 => ?_
    refine wp_region_lit ?_
    refine gw_ev HF71 (want_none rfl) rfl (by decide) (op_move rfl (HF71.ev rfl)) ?_
    intro a73 HF74; clear HF71
    refine gw_ev HF74 (want_none rfl) rfl (by decide) (op_move rfl (HF74.ev rfl)) ?_
    intro a75 HF76; clear HF74
    refine gw_ev HF76 (want_none rfl) rfl (by decide) (op_nil rfl (HF76.ev rfl)) ?_
    intro a77 HF78; clear HF76
    refine gw_ev HF78 (want_none rfl) rfl (by decide) (op_field (gwfld80_0 _ _) rfl (HF78.ev rfl)) ?_
    intro a79 HF80; clear HF78
    refine gw_ev HF80 (want_none rfl) rfl (by decide) (op_load1 gwagg22 rfl (HF80.ev rfl) (blk_at (HO47.get 1 rfl) rfl)) ?_
    intro a81 HF82; clear HF80
    obtain ⟨A83, c84, hr85, hc86, hC87, hA88⟩ := cut_lo (P := Try.prog) (d := (Kd.int .u8)) (t := 22) (e := 5) Try.underlying22 gwsiz5 A' c' (xs.drop j.toNat) hcap 1 (by (first | omega | (simp only [List.length_drop] at *; omega))) (by (first | omega | (simp only [List.length_drop] at *; omega)))
    refine gw_ev HF82 (want_none rfl) rfl (by decide) (op_cut Try.underlying22 hr85 rfl (HF82.ev rfl) (some_ev (ev_c _ _)) rfl) ?_
    intro a89 HF90; clear HF82
    refine gw_ev HF90 (want_none rfl) rfl (by decide) (op_nil rfl (HF90.ev rfl)) ?_
    intro a91 HF92; clear HF90
    refine gw_ev HF92 (want_none rfl) rfl (by decide) (op_field (gwfld80_0 _ _) rfl (HF92.ev rfl)) ?_
    intro a93 HF94; clear HF92
    refine gw_set 1 HF94 HO47 rfl (want_none rfl) rfl (op_store1 gwsiz22 rfl (HF94.ev rfl) (HF94.ev rfl) rfl (blk_at (HO47.get 1 rfl) rfl) (blkf (HO47.get 1 rfl))) ?_
    intro a95 w97 HF96 HO98; clear HF94 HO47
    have HO99 : Own w0 w97 [R, Chunk.blk g (.cells #[.slice A83 (((xs.drop j.toNat).drop (1 : Int).toNat).length) c84] 80 (0, 0))] := HO98
    clear HO98
    refine wpList_nil ?_
    refine gw_nx (hK72 _ _ ?_)
    refine gw_seq fun K100 hK100 => ?_
    refine wp_region_lit ?_
    refine gw_ev HF96 (want_none rfl) rfl (by decide) (op_move rfl (HF96.ev rfl)) ?_
    intro a101 HF102; clear HF96
    refine gw_ev HF102 (want_none rfl) rfl (by decide) (op_move rfl (HF102.ev rfl)) ?_
    intro a103 HF104; clear HF102
    refine gw_ev HF104 (want_none rfl) rfl (by decide) (op_and rfl (HF104.ev rfl) (ev_c _ _)) ?_
    intro a105 HF106; clear HF104
    have HF107 := HF106.conv (v' := .int .u8 ((xs.getD j.toNat 0) % 128)) (by rw [and127 hby])
    clear HF106
    refine gw_ev HF107 (want_none rfl) rfl (by decide) (op_conv_int Try.underlying5 Try.underlying81 rfl (HF107.ev rfl)) ?_
    intro a108 HF109; clear HF107
    have HF110 := HF109.conv (v' := .int .u64 ((xs.getD j.toNat 0) % 128)) (by rw [u64_in _ (by (first | omega | (simp only [List.length_drop] at *; omega))) (by (first | omega | (simp only [List.length_drop] at *; omega)))])
    clear HF109
    refine gw_ev HF110 (want_none rfl) rfl (by decide) (op_move rfl (HF110.ev rfl)) ?_
    intro a111 HF112; clear HF110
    refine gw_ev HF112 (want_none rfl) rfl (by decide) (op_shl rfl (HF112.ev rfl) (HF112.ev rfl) (by (first | omega | (simp only [List.length_drop] at *; omega)))) ?_
    intro a113 HF114; clear HF112
    have HF115 := HF114.conv (v' := .int .u64 ((xs.getD j.toNat 0) % 128 * 128 ^ j.toNat)) (by rw [shl7 (by (first | omega | (simp only [List.length_drop] at *; omega))) (by (first | omega | (simp only [List.length_drop] at *; omega)))])
    clear HF114
    refine gw_ev HF115 (want_none rfl) rfl (by decide) (op_or rfl (HF115.ev rfl) (HF115.ev rfl)) ?_
    intro a116 HF117; clear HF115
    have HF118 := HF117.conv (v' := .int .u64 (valN xs (j.toNat + 1))) (by rw [or7 (by (first | omega | (simp only [List.length_drop] at *; omega)))])
    clear HF117
    refine gw_ev HF118 (want_none rfl) rfl (by decide) (op_assign rfl (HF118.ev rfl)) ?_
    intro a119 HF120; clear HF118
    refine wpList_nil ?_
    refine gw_nx (hK100 _ _ ?_)
    refine gw_seq fun K121 hK121 => ?_
    refine wp_region_lit ?_
    refine gw_ev HF120 (want_none rfl) rfl (by decide) (op_move rfl (HF120.ev rfl)) ?_
    intro a122 HF123; clear HF120
    refine gw_ev HF123 (want_none rfl) rfl (by decide) (op_lss rfl (HF123.ev rfl) (ev_c _ _)) ?_
    intro a124 HF125; clear HF123
    refine wpList_nil ?_
    refine gw_nx (hK121 _ _ ?_)
    refine gw_cond HF125 rfl (fun hb126 => ?_) (fun hb126 => ?_)
    · skip
      have HF127 := HF125.subst_ (d := 42) (b := true) rfl hb126
      clear HF125
      (try simp only [Bool.and_eq_true, Bool.or_eq_true, Bool.and_eq_false_iff, Bool.or_eq_false_iff, Bool.not_and, Bool.not_or, Bool.not_not, decide_eq_true_eq, decide_eq_false_iff_not, Bool.not_eq_true', Bool.not_eq_false', Bool.not_eq_true, Bool.not_eq_false, ne_eq, Decidable.not_not, Int.not_lt, Int.not_le, not_true_eq_false, not_false_eq_true, bne_iff_ne, beq_iff_eq, bne_eq_false_iff_eq, beq_eq_false_iff_ne] at hb126)
      refine gw_seq fun K128 hK128 => ?_
      refine wp_region_lit ?_
      refine gw_ev HF127 (want_none rfl) rfl (by decide) (op_move rfl (HF127.ev rfl)) ?_
      intro a129 HF130; clear HF127
      refine gw_ev HF130 (want_none rfl) rfl (by decide) (op_move rfl (HF130.ev rfl)) ?_
      intro a131 HF132; clear HF130
      refine gw_ev HF132 (want_none rfl) rfl (by decide) (op_leq rfl (HF132.ev rfl) (ev_c _ _)) ?_
      intro a133 HF134; clear HF132
      refine gw_ev HF134 (want_none rfl) rfl (by decide) (op_move rfl (HF134.ev rfl)) ?_
      intro a135 HF136; clear HF134
      refine gw_evG HF136 rfl rfl rfl rfl (on_t _) rfl (by decide) (fun h_ => (op_move rfl (HF136.ev rfl))) ?_
      intro a137 HF138; clear HF136
      refine gw_evG HF138 rfl rfl rfl rfl (on_t _) rfl (by decide) (fun h_ => (op_gtr rfl (ev_gv (HF138.ev rfl) h_) (ev_c _ _))) ?_
      intro a139 HF140; clear HF138
      refine gw_evG HF140 rfl rfl rfl rfl (on_t _) rfl (by decide) (fun h_ => (op_move rfl (ev_gv (HF140.ev rfl) h_))) ?_
      intro a141 HF142; clear HF140
      refine gw_evG HF142 rfl rfl rfl rfl (on_gf _ _) rfl (by decide) (fun h_ => (op_move rfl (HF142.ev rfl))) ?_
      intro a143 HF144; clear HF142
      refine gw_evG HF144 rfl rfl rfl rfl (on_gf _ _) rfl (by decide) (fun h_ => (op_eqi rfl (ev_gv (HF144.ev rfl) (andi (and1 h_) (and2 h_))) (ev_c _ _))) ?_
      intro a145 HF146; clear HF144
      refine gw_evG HF146 rfl rfl rfl rfl (on_t _) rfl (by decide) (fun h_ => (op_pick_or rfl (ev_gv (HF146.ev rfl) h_) (ev_c _ _) (fun hp_ => (ev_gv (HF146.ev rfl) (andi h_ (not_t hp_)))))) ?_
      intro a147 HF148; clear HF146
      refine gw_ev HF148 (want_none rfl) rfl (by decide) (op_pick_and rfl (HF148.ev rfl) (fun hp_ => (ev_gv (HF148.ev rfl) hp_)) (ev_c _ _)) ?_
      intro a149 HF150; clear HF148
      refine gw_callP HF150 (want_none rfl) rfl (by decide) (op_callL Try.func33 (by kernel_rfl) rfl rfl (ar_cons (HF150.ev rfl) (ar_cons (HF150.ev rfl) ar_nil))) (GRead_.need_calls ⟨g, 0, none⟩ ((decide ((valN xs (j.toNat + 1)) ≤ 4611686018427387904)) && ((decide (0 < (xs.getD j.toNat 0))) || (decide ((7 * j) = 0)))) _) ?_
      rintro e152 w153 (⟨hn151, rfl, hb154⟩ | ⟨hn151, rfl, hb154⟩)
      rotate_left
      · skip
        refine .inr ⟨_, rfl, ?_⟩
        have HO158 := HO99.after hb154
        (try simp only [Bool.and_eq_true, Bool.or_eq_true, Bool.and_eq_false_iff, Bool.or_eq_false_iff, Bool.not_and, Bool.not_or, Bool.not_not, decide_eq_true_eq, decide_eq_false_iff_not, Bool.not_eq_true', Bool.not_eq_false', Bool.not_eq_true, Bool.not_eq_false, ne_eq, Decidable.not_not, Int.not_lt, Int.not_le, not_true_eq_false, not_false_eq_true, bne_iff_ne, beq_iff_eq, bne_eq_false_iff_eq, beq_eq_false_iff_ne] at hn151)
        refine gw_thp ?_
        refine gw_blp ?_
        refine gw_thp ?_
        refine gw_thp ?_
        refine gw_blp ?_
        refine gw_pan HF150 ?_
        first | exact .inr ⟨gn_out hj.1 hj.2.1 hg (by (first | omega | (simp only [List.length_drop] at *; omega))), rfl, HO158.sel [0] (by decide)⟩ | exact .inr ⟨(by rw [gn_in hj.1 hg (by (first | omega | (simp only [List.length_drop] at *; omega))) (by (first | omega | (simp only [List.length_drop] at *; omega))), if_pos (by (first | omega | (simp only [List.length_drop] at *; omega))), if_neg (by (first | omega | (simp only [List.length_drop] at *; omega)))]), rfl, HO158.sel [0] (by decide)⟩
      refine .inl ⟨_, rfl, fun a155 HF156 => ?_⟩
      have HO157 := HO99.after hb154
      clear HF150 HO99 hb154
      (try simp only [Bool.and_eq_true, Bool.or_eq_true, Bool.and_eq_false_iff, Bool.or_eq_false_iff, Bool.not_and, Bool.not_or, Bool.not_not, decide_eq_true_eq, decide_eq_false_iff_not, Bool.not_eq_true', Bool.not_eq_false', Bool.not_eq_true, Bool.not_eq_false, ne_eq, Decidable.not_not, Int.not_lt, Int.not_le, not_true_eq_false, not_false_eq_true, bne_iff_ne, beq_iff_eq, bne_eq_false_iff_eq, beq_eq_false_iff_ne] at hn151)
      refine wpList_nil ?_
      refine gw_nx (hK128 _ _ ?_)
      refine gw_seq fun K160 hK160 => ?_
      refine wp_region_lit ?_
      refine gw_ev HF156 (want_none rfl) rfl (by decide) (op_move rfl (HF156.ev rfl)) ?_
      intro a161 HF162; clear HF156
      refine gw_ev HF162 (want_none rfl) rfl (by decide) (op_conv_inb Try.underlying81 Try.underlying2 rfl (HF162.ev rfl) (by have hvb_ := (valN_bound xs (j.toNat + 1)).1; constructor <;> omega)) ?_
      intro a163 HF164; clear HF162
      refine gw_ev HF164 (want_none rfl) rfl (by decide) (op_assign rfl (HF164.ev rfl)) ?_
      intro a165 HF166; clear HF164
      refine wpList_nil ?_
      refine gw_nx (hK160 _ _ ?_)
      refine wp_ret ?_
      refine gw_blr ?_
      refine gw_thr ?_
      refine gw_thr ?_
      refine gw_blr ?_
      refine gw_ret1 HF166 rfl rfl ?_
      have eg := gn_in hj.1 hg (by (first | omega | (simp only [List.length_drop] at *; omega))) (by (first | omega | (simp only [List.length_drop] at *; omega)))
      rw [if_pos (by (first | omega | (simp only [List.length_drop] at *; omega))), if_pos (by exact ⟨by (first | omega | (simp only [List.length_drop] at *; omega)), by (first | omega | (simp only [List.length_drop] at *; omega))⟩)] at eg
      refine .inl ⟨_, _, A83, c84, eg, rfl, ?_, ?_, ?_⟩
      · intro W h; rw [show j.toNat + 1 = (j + 1).toNat by (first | omega | (simp only [List.length_drop] at *; omega)), ← drop_one_more xs j (by (first | omega | (simp only [List.length_drop] at *; omega)))]; exact hC87 W (hC W h)
      · rw [show j.toNat + 1 = (j + 1).toNat by (first | omega | (simp only [List.length_drop] at *; omega)), ← drop_one_more xs j (by (first | omega | (simp only [List.length_drop] at *; omega)))]; exact hc86
      · rw [show j.toNat + 1 = (j + 1).toNat by (first | omega | (simp only [List.length_drop] at *; omega)), ← drop_one_more xs j (by (first | omega | (simp only [List.length_drop] at *; omega)))]; exact HO157
    · skip
      have HF167 := HF125.subst_ (d := 42) (b := false) rfl hb126
      clear HF125
      (try simp only [Bool.and_eq_true, Bool.or_eq_true, Bool.and_eq_false_iff, Bool.or_eq_false_iff, Bool.not_and, Bool.not_or, Bool.not_not, decide_eq_true_eq, decide_eq_false_iff_not, Bool.not_eq_true', Bool.not_eq_false', Bool.not_eq_true, Bool.not_eq_false, ne_eq, Decidable.not_not, Int.not_lt, Int.not_le, not_true_eq_false, not_false_eq_true, bne_iff_ne, beq_iff_eq, bne_eq_false_iff_eq, beq_eq_false_iff_ne] at hb126)
      refine wp_skip ?_
      refine gw_blk ?_
      refine gw_nx (hK17 _ _ ?_)
      refine wp_region_lit ?_
      refine gw_ev HF167 (want_none rfl) rfl (by decide) (op_move rfl (HF167.ev rfl)) ?_
      intro a168 HF169; clear HF167
      refine gw_ev HF169 (want_none rfl) rfl (by decide) (op_add rfl (HF169.ev rfl) (ev_c _ _) (by (first | omega | (simp only [List.length_drop] at *; omega)))) ?_
      intro a170 HF171; clear HF169
      have HF172 := HF171.conv (v' := .int .i64 (7 * (j + 1))) (by congr 1; omega)
      clear HF171
      refine gw_ev HF172 (want_none rfl) rfl (by decide) (op_assign rfl (HF172.ev rfl)) ?_
      intro a173 HF174; clear HF172
      refine wpList_nil ?_
      rw [drop_one_more xs j (by (first | omega | (simp only [List.length_drop] at *; omega)))] at HO99
      (try rw [drop_one_more xs j (by (first | omega | (simp only [List.length_drop] at *; omega)))] at HF174)
      rw [show valN xs (j.toNat + 1) = valN xs (j + 1).toNat from by rw [show (j + 1).toNat = j.toNat + 1 by (first | omega | (simp only [List.length_drop] at *; omega))]] at HF174
      refine gw_nx ⟨_, ?_, j + 1, A83, c84, (HF174.pick (t := 3) rfl (HF174.pick (t := 4) rfl (HF174.pick (t := 0) rfl HF174.nil))), HO99.sel [0, 1] (by decide), ?_, ?_, ?_, ?_, rfl⟩
      · rw [hm16]; (first | omega | (simp only [List.length_drop] at *; omega))
      · (first | omega | (simp only [List.length_drop] at *; omega))
      · rw [gn_in hj.1 hg (by (first | omega | (simp only [List.length_drop] at *; omega))) (by (first | omega | (simp only [List.length_drop] at *; omega))), if_neg (by (first | omega | (simp only [List.length_drop] at *; omega)))]
      · intro W h; rw [← drop_one_more xs j (by (first | omega | (simp only [List.length_drop] at *; omega)))]; exact hC87 W (hC W h)
      · rw [← drop_one_more xs j (by (first | omega | (simp only [List.length_drop] at *; omega)))]; exact hc86
set_option maxHeartbeats 4000000 in
set_option maxRecDepth 100000 in
theorem int_calls (w0 w : World) (R : Chunk) (g : Nat) (A : Option Addr) (c : Nat) (xs : List Int) (hx : ∀ w_, Own w0 w_ [R] → Kd.C (Kd.int .u8) w_ A xs.length xs) (hc : xs.length ≤ c) (hb : ByteL xs) (most : Int) (HO : Own w0 w [R, Chunk.blk g (.cells #[.slice A xs.length c] 80 (0, 0))]) :
    Calls Try.prog 36 #[.pointer (some ⟨g, 0, none⟩), .int .i64 most] w fun e w' => (∃ n k A' c', gnum xs = some (n, k) ∧ n ≤ most ∧ e = .returned (.int .i64 n) ∧ (∀ W, Kd.C (Kd.int .u8) W A xs.length xs → Kd.C (Kd.int .u8) W A' (xs.drop k).length (xs.drop k)) ∧ (xs.drop k).length ≤ c' ∧ Own w0 w' [R, Chunk.blk g (.cells #[.slice A' (xs.drop k).length c'] 80 (0, 0))]) ∨ ((∀ n k, gnum xs = some (n, k) → most < n) ∧ e = .panicked [{ v := .iface 78 (.agg #[]), recovered := false }] ∧ Own w0 w' [R]) := by
  refine gw_startO (N := 14) (vs := [.pointer (some ⟨g, 0, none⟩), .int .i64 most]) Try.func36 rfl rfl (by simp) fun a HF => ?_
  refine gw_seq fun K1 hK1 => ?_
  refine wp_region_lit ?_
  refine gw_ev HF (want_none rfl) rfl (by decide) (op_assign rfl (ev_c _ _)) ?_
  intro a2 HF3; clear HF
  refine wpList_nil ?_
  refine gw_nx (hK1 _ _ ?_)
  refine gw_seq fun K4 hK4 => ?_
  refine wp_region_lit ?_
  refine gw_ev HF3 (want_none rfl) rfl (by decide) (op_move rfl (HF3.ev rfl)) ?_
  intro a5 HF6; clear HF3
  have HO22 : Own w0 _ [(Chunk.all [R]), Chunk.blk g (.cells #[.slice A xs.length c] 80 (0, 0))] := Own.bundle (A := [R]) (L := [Chunk.blk g (.cells #[.slice A xs.length c] 80 (0, 0))]) (HO.sel [0, 1] (by decide))
  refine gw_callP HF6 (want_none rfl) rfl (by decide) (op_callL Try.func35 (by kernel_rfl) rfl rfl (ar_cons (HF6.ev rfl) ar_nil)) (GRead_.num_calls w0 _ (Chunk.all [R]) g A c xs (fun w_ h_ => (hx _ ((Own.unbundle (A := [R]) (L := []) h_).sel [0] (by decide)))) hc (by first | exact hb | exact hb.drop _ | exact (hb.drop _).drop _ | assumption) HO22) ?_
  rintro e16 w17 (⟨n7, k8, A9, c10, hg11, rfl, hC12, hc13, hb18⟩ | ⟨hg11, rfl, hb18⟩)
  rotate_left
  · skip
    refine .inr ⟨_, rfl, ?_⟩
    have HO23 : Own w0 w17 [R] := Own.unbundle (A := [R]) (L := []) hb18
    refine gw_thp ?_
    refine gw_pan HF6 ?_
    exact .inr ⟨(by intro n_ k_ h_; first | (rw [hg11] at h_; cases h_; done) | (rw [hg11] at h_; injection h_ with h_; injection h_ with h1_ h2_; omega)), rfl, HO23.sel [0] (by decide)⟩
  refine .inl ⟨_, rfl, fun a19 HF20 => ?_⟩
  have HO21 : Own w0 w17 [R, Chunk.blk g (.cells #[.slice A9 ((xs.drop k8).length) c10] 80 (0, 0))] := Own.unbundle (A := [R]) (L := [Chunk.blk g (.cells #[.slice A9 ((xs.drop k8).length) c10] 80 (0, 0))]) (hb18.sel [0, 1] (by decide))
  clear HO22
  clear HF6 HO hb18
  have HO25 : Own w0 w17 [R, Chunk.blk g (.cells #[.slice A9 ((xs.drop k8).length) c10] 80 (0, 0))] := HO21
  clear HO21
  have hgs15 := gnum_some hg11
  refine gw_ev HF20 (want_none rfl) rfl (by decide) (op_assign rfl (HF20.ev rfl)) ?_
  intro a26 HF27; clear HF20
  refine wpList_nil ?_
  refine gw_nx (hK4 _ _ ?_)
  refine gw_seq fun K28 hK28 => ?_
  refine wp_region_lit ?_
  refine gw_ev HF27 (want_none rfl) rfl (by decide) (op_move rfl (HF27.ev rfl)) ?_
  intro a29 HF30; clear HF27
  refine gw_ev HF30 (want_none rfl) rfl (by decide) (op_move rfl (HF30.ev rfl)) ?_
  intro a31 HF32; clear HF30
  refine gw_ev HF32 (want_none rfl) rfl (by decide) (op_move rfl (HF32.ev rfl)) ?_
  intro a33 HF34; clear HF32
  refine gw_ev HF34 (want_none rfl) rfl (by decide) (op_leq rfl (HF34.ev rfl) (HF34.ev rfl)) ?_
  intro a35 HF36; clear HF34
  refine gw_callP HF36 (want_none rfl) rfl (by decide) (op_callL Try.func33 (by kernel_rfl) rfl rfl (ar_cons (HF36.ev rfl) (ar_cons (HF36.ev rfl) ar_nil))) (GRead_.need_calls ⟨g, 0, none⟩ (decide (n7 ≤ most)) _) ?_
  rintro e38 w39 (⟨hn37, rfl, hb40⟩ | ⟨hn37, rfl, hb40⟩)
  rotate_left
  · skip
    refine .inr ⟨_, rfl, ?_⟩
    have HO44 := HO25.after hb40
    (try simp only [Bool.and_eq_true, Bool.or_eq_true, Bool.and_eq_false_iff, Bool.or_eq_false_iff, Bool.not_and, Bool.not_or, Bool.not_not, decide_eq_true_eq, decide_eq_false_iff_not, Bool.not_eq_true', Bool.not_eq_false', Bool.not_eq_true, Bool.not_eq_false, ne_eq, Decidable.not_not, Int.not_lt, Int.not_le, not_true_eq_false, not_false_eq_true, bne_iff_ne, beq_iff_eq, bne_eq_false_iff_eq, beq_eq_false_iff_ne] at hn37)
    refine gw_thp ?_
    refine gw_pan HF36 ?_
    exact .inr ⟨(by intro n_ k_ h_; first | (rw [hg11] at h_; cases h_; done) | (rw [hg11] at h_; injection h_ with h_; injection h_ with h1_ h2_; omega)), rfl, HO44.sel [0] (by decide)⟩
  refine .inl ⟨_, rfl, fun a41 HF42 => ?_⟩
  have HO43 := HO25.after hb40
  clear HF36 HO25 hb40
  (try simp only [Bool.and_eq_true, Bool.or_eq_true, Bool.and_eq_false_iff, Bool.or_eq_false_iff, Bool.not_and, Bool.not_or, Bool.not_not, decide_eq_true_eq, decide_eq_false_iff_not, Bool.not_eq_true', Bool.not_eq_false', Bool.not_eq_true, Bool.not_eq_false, ne_eq, Decidable.not_not, Int.not_lt, Int.not_le, not_true_eq_false, not_false_eq_true, bne_iff_ne, beq_iff_eq, bne_eq_false_iff_eq, beq_eq_false_iff_ne] at hn37)
  refine wpList_nil ?_
  refine gw_nx (hK28 _ _ ?_)
  refine gw_seq fun K46 hK46 => ?_
  refine wp_region_lit ?_
  refine gw_ev HF42 (want_none rfl) rfl (by decide) (op_move rfl (HF42.ev rfl)) ?_
  intro a47 HF48; clear HF42
  refine gw_ev HF48 (want_none rfl) rfl (by decide) (op_assign rfl (HF48.ev rfl)) ?_
  intro a49 HF50; clear HF48
  refine wpList_nil ?_
  refine gw_nx (hK46 _ _ ?_)
  refine wp_ret ?_
  refine gw_ret1 HF50 rfl rfl ?_
  exact .inl ⟨_, _, _, _, hg11, by omega, rfl, hC12, hc13, HO43⟩
set_option maxHeartbeats 4000000 in
set_option maxRecDepth 100000 in
theorem text_calls (w0 w : World) (R : Chunk) (g : Nat) (A : Option Addr) (c : Nat) (xs : List Int) (hx : ∀ w_, Own w0 w_ [R] → Kd.C (Kd.int .u8) w_ A xs.length xs) (hc : xs.length ≤ c) (hb : ByteL xs) (most : Int) (HO : Own w0 w [R, Chunk.blk g (.cells #[.slice A xs.length c] 80 (0, 0))]) :
    Calls Try.prog 37 #[.pointer (some ⟨g, 0, none⟩), .int .i64 most] w fun e w' => (∃ bs k A' c', gtext xs most = some (bs, k) ∧ e = .returned (.string (strOfNums bs)) ∧ (∀ W, Kd.C (Kd.int .u8) W A xs.length xs → Kd.C (Kd.int .u8) W A' (xs.drop k).length (xs.drop k)) ∧ (xs.drop k).length ≤ c' ∧ Own w0 w' [R, Chunk.blk g (.cells #[.slice A' (xs.drop k).length c'] 80 (0, 0))]) ∨ (gtext xs most = none ∧ e = .panicked [{ v := .iface 78 (.agg #[]), recovered := false }] ∧ Own w0 w' [R]) := by
  refine gw_startO (N := 36) (vs := [.pointer (some ⟨g, 0, none⟩), .int .i64 most]) Try.func37 rfl rfl (by simp) fun a HF => ?_
  refine gw_seq fun K1 hK1 => ?_
  refine wp_region_lit ?_
  refine gw_ev HF (want_none rfl) rfl (by decide) (op_assign rfl (ev_c _ _)) ?_
  intro a2 HF3; clear HF
  refine wpList_nil ?_
  refine gw_nx (hK1 _ _ ?_)
  refine gw_seq fun K4 hK4 => ?_
  refine wp_region_lit ?_
  refine gw_ev HF3 (want_none rfl) rfl (by decide) (op_move rfl (HF3.ev rfl)) ?_
  intro a5 HF6; clear HF3
  refine gw_ev HF6 (want_none rfl) rfl (by decide) (op_move rfl (HF6.ev rfl)) ?_
  intro a7 HF8; clear HF6
  have HO24 : Own w0 _ [(Chunk.all [R]), Chunk.blk g (.cells #[.slice A xs.length c] 80 (0, 0))] := Own.bundle (A := [R]) (L := [Chunk.blk g (.cells #[.slice A xs.length c] 80 (0, 0))]) (HO.sel [0, 1] (by decide))
  refine gw_callP HF8 (want_none rfl) rfl (by decide) (op_callL Try.func36 (by kernel_rfl) rfl rfl (ar_cons (HF8.ev rfl) (ar_cons (HF8.ev rfl) ar_nil))) (GRead_.int_calls w0 _ (Chunk.all [R]) g A c xs (fun w_ h_ => (hx _ ((Own.unbundle (A := [R]) (L := []) h_).sel [0] (by decide)))) hc (by first | exact hb | exact hb.drop _ | exact (hb.drop _).drop _ | assumption) most HO24) ?_
  rintro e18 w19 (⟨n9, k10, A11, c12, hg13, hl16, rfl, hC14, hc15, hb20⟩ | ⟨hg13, rfl, hb20⟩)
  rotate_left
  · skip
    refine .inr ⟨_, rfl, ?_⟩
    have HO25 : Own w0 w19 [R] := Own.unbundle (A := [R]) (L := []) hb20
    refine gw_thp ?_
    refine gw_pan HF8 ?_
    first | exact .inr ⟨gtext_no1 (by assumption), rfl, HO25.sel [0] (by decide)⟩ | exact .inr ⟨gtext_no2 (by assumption) (by simp only [List.length_drop] at *; omega), rfl, HO25.sel [0] (by decide)⟩
  refine .inl ⟨_, rfl, fun a21 HF22 => ?_⟩
  have HO23 : Own w0 w19 [R, Chunk.blk g (.cells #[.slice A11 ((xs.drop k10).length) c12] 80 (0, 0))] := Own.unbundle (A := [R]) (L := [Chunk.blk g (.cells #[.slice A11 ((xs.drop k10).length) c12] 80 (0, 0))]) (hb20.sel [0, 1] (by decide))
  clear HO24
  clear HF8 HO hb20
  have HO27 : Own w0 w19 [R, Chunk.blk g (.cells #[.slice A11 ((xs.drop k10).length) c12] 80 (0, 0))] := HO23
  clear HO23
  have hgs17 := gnum_some hg13
  refine gw_ev HF22 (want_none rfl) rfl (by decide) (op_assign rfl (HF22.ev rfl)) ?_
  intro a28 HF29; clear HF22
  refine wpList_nil ?_
  refine gw_nx (hK4 _ _ ?_)
  refine gw_seq fun K30 hK30 => ?_
  refine wp_region_lit ?_
  refine gw_ev HF29 (want_none rfl) rfl (by decide) (op_move rfl (HF29.ev rfl)) ?_
  intro a31 HF32; clear HF29
  refine gw_ev HF32 (want_none rfl) rfl (by decide) (op_move rfl (HF32.ev rfl)) ?_
  intro a33 HF34; clear HF32
  refine gw_ev HF34 (want_none rfl) rfl (by decide) (op_move rfl (HF34.ev rfl)) ?_
  intro a35 HF36; clear HF34
  refine gw_ev HF36 (want_none rfl) rfl (by decide) (op_nil rfl (HF36.ev rfl)) ?_
  intro a37 HF38; clear HF36
  refine gw_ev HF38 (want_none rfl) rfl (by decide) (op_field (gwfld80_0 _ _) rfl (HF38.ev rfl)) ?_
  intro a39 HF40; clear HF38
  refine gw_ev HF40 (want_none rfl) rfl (by decide) (op_load1 gwagg22 rfl (HF40.ev rfl) (blk_at (HO27.get 1 rfl) rfl)) ?_
  intro a41 HF42; clear HF40
  refine gw_ev HF42 (want_none rfl) rfl (by decide) (op_len Try.underlying22 rfl (HF42.ev rfl)) ?_
  intro a43 HF44; clear HF42
  refine gw_ev HF44 (want_none rfl) rfl (by decide) (op_leq rfl (HF44.ev rfl) (HF44.ev rfl)) ?_
  intro a45 HF46; clear HF44
  refine gw_callP HF46 (want_none rfl) rfl (by decide) (op_callL Try.func33 (by kernel_rfl) rfl rfl (ar_cons (HF46.ev rfl) (ar_cons (HF46.ev rfl) ar_nil))) (GRead_.need_calls ⟨g, 0, none⟩ (decide (n9 ≤ (((xs.drop k10).length) : Int))) _) ?_
  rintro e48 w49 (⟨hn47, rfl, hb50⟩ | ⟨hn47, rfl, hb50⟩)
  rotate_left
  · skip
    refine .inr ⟨_, rfl, ?_⟩
    have HO54 := HO27.after hb50
    (try simp only [Bool.and_eq_true, Bool.or_eq_true, Bool.and_eq_false_iff, Bool.or_eq_false_iff, Bool.not_and, Bool.not_or, Bool.not_not, decide_eq_true_eq, decide_eq_false_iff_not, Bool.not_eq_true', Bool.not_eq_false', Bool.not_eq_true, Bool.not_eq_false, ne_eq, Decidable.not_not, Int.not_lt, Int.not_le, not_true_eq_false, not_false_eq_true, bne_iff_ne, beq_iff_eq, bne_eq_false_iff_eq, beq_eq_false_iff_ne] at hn47)
    refine gw_thp ?_
    refine gw_pan HF46 ?_
    first | exact .inr ⟨gtext_no1 (by assumption), rfl, HO54.sel [0] (by decide)⟩ | exact .inr ⟨gtext_no2 (by assumption) (by simp only [List.length_drop] at *; omega), rfl, HO54.sel [0] (by decide)⟩
  refine .inl ⟨_, rfl, fun a51 HF52 => ?_⟩
  have HO53 := HO27.after hb50
  clear HF46 HO27 hb50
  (try simp only [Bool.and_eq_true, Bool.or_eq_true, Bool.and_eq_false_iff, Bool.or_eq_false_iff, Bool.not_and, Bool.not_or, Bool.not_not, decide_eq_true_eq, decide_eq_false_iff_not, Bool.not_eq_true', Bool.not_eq_false', Bool.not_eq_true, Bool.not_eq_false, ne_eq, Decidable.not_not, Int.not_lt, Int.not_le, not_true_eq_false, not_false_eq_true, bne_iff_ne, beq_iff_eq, bne_eq_false_iff_eq, beq_eq_false_iff_ne] at hn47)
  refine wpList_nil ?_
  refine gw_nx (hK30 _ _ ?_)
  refine gw_seq fun K56 hK56 => ?_
  refine wp_region_lit ?_
  refine gw_ev HF52 (want_none rfl) rfl (by decide) (op_move rfl (HF52.ev rfl)) ?_
  intro a57 HF58; clear HF52
  refine gw_ev HF58 (want_none rfl) rfl (by decide) (op_nil rfl (HF58.ev rfl)) ?_
  intro a59 HF60; clear HF58
  refine gw_ev HF60 (want_none rfl) rfl (by decide) (op_field (gwfld80_0 _ _) rfl (HF60.ev rfl)) ?_
  intro a61 HF62; clear HF60
  refine gw_ev HF62 (want_none rfl) rfl (by decide) (op_load1 gwagg22 rfl (HF62.ev rfl) (blk_at (HO53.get 1 rfl) rfl)) ?_
  intro a63 HF64; clear HF62
  refine gw_ev HF64 (want_none rfl) rfl (by decide) (op_move rfl (HF64.ev rfl)) ?_
  intro a65 HF66; clear HF64
  obtain ⟨hr67, hc68, hC69⟩ := cut_hi (P := Try.prog) (d := (Kd.int .u8)) (t := 22) (e := 5) Try.underlying22 gwsiz5 A11 c12 (xs.drop k10) hc15 n9 (by (first | omega | (simp only [List.length_drop] at *; omega))) (by (first | omega | (simp only [List.length_drop] at *; omega)))
  refine gw_ev HF66 (want_none rfl) rfl (by decide) (op_cut Try.underlying22 hr67 rfl (HF66.ev rfl) rfl (some_ev (HF66.ev rfl))) ?_
  intro a70 HF71; clear HF66
  refine gw_ev HF71 (want_none rfl) rfl (by decide) (op_conv_str Try.underlying22 Try.underlying5 Try.underlying9 (hC69 _ (hC14 _ (hx _ (HO53.sel [0] (by decide))))) rfl (HF71.ev rfl)) ?_
  intro a72 HF73; clear HF71
  refine gw_ev HF73 (want_none rfl) rfl (by decide) (op_assign rfl (HF73.ev rfl)) ?_
  intro a74 HF75; clear HF73
  refine wpList_nil ?_
  refine gw_nx (hK56 _ _ ?_)
  refine gw_seq fun K76 hK76 => ?_
  refine wp_region_lit ?_
  refine gw_ev HF75 (want_none rfl) rfl (by decide) (op_move rfl (HF75.ev rfl)) ?_
  intro a77 HF78; clear HF75
  refine gw_ev HF78 (want_none rfl) rfl (by decide) (op_move rfl (HF78.ev rfl)) ?_
  intro a79 HF80; clear HF78
  refine gw_ev HF80 (want_none rfl) rfl (by decide) (op_nil rfl (HF80.ev rfl)) ?_
  intro a81 HF82; clear HF80
  refine gw_ev HF82 (want_none rfl) rfl (by decide) (op_field (gwfld80_0 _ _) rfl (HF82.ev rfl)) ?_
  intro a83 HF84; clear HF82
  refine gw_ev HF84 (want_none rfl) rfl (by decide) (op_load1 gwagg22 rfl (HF84.ev rfl) (blk_at (HO53.get 1 rfl) rfl)) ?_
  intro a85 HF86; clear HF84
  refine gw_ev HF86 (want_none rfl) rfl (by decide) (op_move rfl (HF86.ev rfl)) ?_
  intro a87 HF88; clear HF86
  obtain ⟨A89, c90, hr91, hc92, hC93, hA94⟩ := cut_lo (P := Try.prog) (d := (Kd.int .u8)) (t := 22) (e := 5) Try.underlying22 gwsiz5 A11 c12 (xs.drop k10) hc15 n9 (by (first | omega | (simp only [List.length_drop] at *; omega))) (by (first | omega | (simp only [List.length_drop] at *; omega)))
  refine gw_ev HF88 (want_none rfl) rfl (by decide) (op_cut Try.underlying22 hr91 rfl (HF88.ev rfl) (some_ev (HF88.ev rfl)) rfl) ?_
  intro a95 HF96; clear HF88
  refine gw_ev HF96 (want_none rfl) rfl (by decide) (op_nil rfl (HF96.ev rfl)) ?_
  intro a97 HF98; clear HF96
  refine gw_ev HF98 (want_none rfl) rfl (by decide) (op_field (gwfld80_0 _ _) rfl (HF98.ev rfl)) ?_
  intro a99 HF100; clear HF98
  refine gw_set 1 HF100 HO53 rfl (want_none rfl) rfl (op_store1 gwsiz22 rfl (HF100.ev rfl) (HF100.ev rfl) rfl (blk_at (HO53.get 1 rfl) rfl) (blkf (HO53.get 1 rfl))) ?_
  intro a101 w103 HF102 HO104; clear HF100 HO53
  have HO105 : Own w0 w103 [R, Chunk.blk g (.cells #[.slice A89 (((xs.drop k10).drop n9.toNat).length) c90] 80 (0, 0))] := HO104
  clear HO104
  refine wpList_nil ?_
  refine gw_nx (hK76 _ _ ?_)
  refine gw_seq fun K106 hK106 => ?_
  refine wp_region_lit ?_
  refine gw_ev HF102 (want_none rfl) rfl (by decide) (op_move rfl (HF102.ev rfl)) ?_
  intro a107 HF108; clear HF102
  refine gw_ev HF108 (want_none rfl) rfl (by decide) (op_assign rfl (HF108.ev rfl)) ?_
  intro a109 HF110; clear HF108
  refine wpList_nil ?_
  refine gw_nx (hK106 _ _ ?_)
  refine wp_ret ?_
  refine gw_ret1 HF110 rfl rfl ?_
  rw [List.drop_drop] at HO105
  (try rw [List.drop_drop] at HF110)
  refine .inl ⟨_, _, A89, c90, gtext_is hg13 (by (first | omega | (simp only [List.length_drop] at *; omega))) (by simp only [List.length_drop] at *; omega), rfl, ?_, ?_, HO105⟩
  · intro W h; rw [← List.drop_drop]; exact hC93 W (hC14 W h)
  · rw [← List.drop_drop]; exact hc92
set_option maxHeartbeats 4000000 in
set_option maxRecDepth 100000 in
theorem left_calls (g : Nat) (A : Option Addr) (n c : Nat) (w : World) (hB : w.heap[g]? = some (.cells #[.slice A n c] 80 (0, 0))) :
    Calls Try.prog 38 #[.pointer (some ⟨g, 0, none⟩)] w fun e w' => e = .returned (.int .i64 n) ∧ Below w.heap.size w w' := by
  refine gw_start (N := 8) (vs := [.pointer (some ⟨g, 0, none⟩)]) Try.func38 rfl rfl (by simp) fun a HF HO => ?_
  replace HO : Own w w [] := HO
  refine gw_seq fun K1 hK1 => ?_
  refine wp_region_lit ?_
  refine gw_ev HF (want_none rfl) rfl (by decide) (op_assign rfl (ev_c _ _)) ?_
  intro a2 HF3; clear HF
  refine wpList_nil ?_
  refine gw_nx (hK1 _ _ ?_)
  refine gw_seq fun K4 hK4 => ?_
  refine wp_region_lit ?_
  refine gw_ev HF3 (want_none rfl) rfl (by decide) (op_move rfl (HF3.ev rfl)) ?_
  intro a5 HF6; clear HF3
  refine gw_ev HF6 (want_none rfl) rfl (by decide) (op_nil rfl (HF6.ev rfl)) ?_
  intro a7 HF8; clear HF6
  refine gw_ev HF8 (want_none rfl) rfl (by decide) (op_field (gwfld80_0 _ _) rfl (HF8.ev rfl)) ?_
  intro a9 HF10; clear HF8
  refine gw_ev HF10 (want_none rfl) rfl (by decide) (op_load1 gwagg22 rfl (HF10.ev rfl) (blk_at (argblk HO hB) rfl)) ?_
  intro a11 HF12; clear HF10
  refine gw_ev HF12 (want_none rfl) rfl (by decide) (op_len Try.underlying22 rfl (HF12.ev rfl)) ?_
  intro a13 HF14; clear HF12
  refine gw_ev HF14 (want_none rfl) rfl (by decide) (op_assign rfl (HF14.ev rfl)) ?_
  intro a15 HF16; clear HF14
  refine wpList_nil ?_
  refine gw_nx (hK4 _ _ ?_)
  refine wp_ret ?_
  refine gw_ret1 HF16 rfl rfl ?_
  exact ⟨rfl, HO.below⟩
set_option maxHeartbeats 4000000 in
set_option maxRecDepth 100000 in
theorem readd_ok (w0 w : World) (R : Chunk) (gc : Nat) (n : Int) (HO : Own w0 w [R, Chunk.blk gc (.cells #[.int .i64 n] 38 (0, 0))]) :
    CallsD Try.prog 63 #[.pointer (some ⟨gc, 0, none⟩)] .returning w fun e u' w' => e = .returned (.tuple #[]) ∧ u' = .returning ∧ Own w0 w' [R, Chunk.blk gc (.cells #[.int .i64 n] 38 (0, 0))] := by
  refine gs_start (N := 10) (vs := [.pointer (some ⟨gc, 0, none⟩)]) Try.func63 rfl rfl (by simp) fun c0 cs hu a HF => ?_
  refine gs_recover (got := .nilIface) (u' := .returning) HF rfl rfl rfl (by decide) hu (by rfl) fun a HF => ?_
  refine wp_block ?_
  refine gw_seq fun K1 hK1 => ?_
  refine wp_region_lit ?_
  refine gw_ev HF (want_none rfl) rfl (by decide) (op_bin_run (r := .bool true) rfl (HF.ev rfl) (ev_c _ _) (by kernel_rfl)) ?_
  intro a2 HF3; clear HF
  refine wpList_nil ?_
  refine gw_nx (hK1 _ _ ?_)
  refine gw_cond HF3 rfl (fun hb4 => ?_) (fun hb4 => ?_)
  rotate_left
  · cases hb4
  refine wp_region_lit ?_
  refine gw_ev HF3 (want_none rfl) rfl (by decide) (op_assign rfl (HF3.ev rfl)) ?_
  intro a5 HF6; clear HF3
  refine wpList_nil ?_
  refine gw_blk ?_
  refine gs_end0 HF6 rfl ?_
  exact ⟨rfl, rfl, HO.sel [0, 1] (by decide)⟩
set_option maxHeartbeats 4000000 in
set_option maxRecDepth 100000 in
theorem readd_bad (w0 w : World) (R : Chunk) (gc : Nat) (n : Int) (HO : Own w0 w [R, Chunk.blk gc (.cells #[.int .i64 n] 38 (0, 0))]) :
    CallsD Try.prog 63 #[.pointer (some ⟨gc, 0, none⟩)] (.panicking [{ v := (.iface 78 (.agg #[])), recovered := false }]) w fun e u' w' => e = .returned (.tuple #[]) ∧ u' = .panicking [{ v := (.iface 78 (.agg #[])), recovered := true }] ∧ Own w0 w' [R, Chunk.blk gc (.cells #[.int .i64 80] 38 (0, 0))] := by
  refine gs_start (N := 10) (vs := [.pointer (some ⟨gc, 0, none⟩)]) Try.func63 rfl rfl (by simp) fun c0 cs hu a HF => ?_
  refine gs_recover (got := .iface 78 (.agg #[])) (u' := (.panicking [{ v := (.iface 78 (.agg #[])), recovered := true }])) HF rfl rfl rfl (by decide) hu (by rfl) fun a HF => ?_
  refine wp_block ?_
  refine gw_seq fun K1 hK1 => ?_
  refine wp_region_lit ?_
  refine gw_ev HF (want_none rfl) rfl (by decide) (op_bin_run (r := .bool false) rfl (HF.ev rfl) (ev_c _ _) (by kernel_rfl)) ?_
  intro a2 HF3; clear HF
  refine wpList_nil ?_
  refine gw_nx (hK1 _ _ ?_)
  refine gw_cond HF3 rfl (fun hb4 => ?_) (fun hb4 => ?_)
  skip
  · cases hb4
  refine gw_seq fun K5 hK5 => ?_
  refine wp_region_lit ?_
  refine gw_ev HF3 (want_none rfl) rfl (by decide) (op_tassert (r := .tuple #[.agg #[], .bool true]) (by kernel_rfl) rfl (HF3.ev rfl)) ?_
  intro a6 HF7; clear HF3
  refine gw_ev HF7 (want_none rfl) rfl (by decide) (op_extract rfl (HF7.ev rfl) rfl) ?_
  intro a8 HF9; clear HF7
  refine gw_ev HF9 (want_none rfl) rfl (by decide) (op_extract rfl (HF9.ev rfl) rfl) ?_
  intro a10 HF11; clear HF9
  refine wpList_nil ?_
  refine gw_nx (hK5 _ _ ?_)
  refine gw_cond HF11 rfl (fun hb12 => ?_) (fun hb12 => ?_)
  rotate_left
  · cases hb12
  refine gw_seq fun K13 hK13 => ?_
  refine wp_region_lit ?_
  refine gw_new HF11 HO (want_none rfl) rfl (by decide) (op_alloc gwzer78 rfl) ?_
  intro g14 a15 w16 HF17 HO18; clear HF11 HO
  have HO19 : Own w0 w16 [Chunk.blk g14 (.cells #[] 78 (0, 0)), R, Chunk.blk gc (.cells #[.int .i64 n] 38 (0, 0))] := HO18
  clear HO18
  refine gw_setn 0 HF17 HO19 rfl (want_none rfl) rfl (op_storen gwsiz78 rfl (HF17.ev rfl) (HF17.ev rfl) (HO19.get 0 rfl) rfl (by simp) (by simp [Value.oneCell'])) ?_
  intro a20 w22 HF21 HO23; clear HF17 HO19
  have HO24 : Own w0 w22 [Chunk.blk g14 (.cells #[] 78 (0, 0)), R, Chunk.blk gc (.cells #[.int .i64 n] 38 (0, 0))] := HO23
  clear HO23
  refine wpList_nil ?_
  refine gw_nx (hK13 _ _ ?_)
  refine wp_region_lit ?_
  refine gw_set 2 HF21 HO24 rfl (want_none rfl) rfl (op_store1 gwsiz38 rfl (HF21.ev rfl) (ev_c _ _) rfl (blk_at (HO24.get 2 rfl) rfl) (blkf (HO24.get 2 rfl))) ?_
  intro a25 w27 HF26 HO28; clear HF21 HO24
  have HO29 : Own w0 w27 [Chunk.blk g14 (.cells #[] 78 (0, 0)), R, Chunk.blk gc (.cells #[.int .i64 80] 38 (0, 0))] := HO28
  clear HO28
  refine wpList_nil ?_
  refine gw_blk ?_
  refine gs_end0 HF26 rfl ?_
  exact ⟨rfl, rfl, HO29.sel [1, 2] (by decide)⟩
set_option maxHeartbeats 4000000 in
set_option maxRecDepth 100000 in
theorem readd_mine (w0 w : World) (R : Chunk) (gc : Nat) (n : Int) (HO : Own w0 w [R, Chunk.blk gc (.cells #[.int .i64 n] 38 (0, 0))]) :
    CallsD Try.prog 63 #[.pointer (some ⟨gc, 0, none⟩)] (.panicking [{ v := (.iface 9 (.string (⟨#[109, 105, 110, 101]⟩ : ByteArray))), recovered := false }]) w fun e u' w' => e = .panicked [{ v := (.iface 9 (.string (⟨#[109, 105, 110, 101]⟩ : ByteArray))), recovered := false }] ∧ u' = .panicking [{ v := (.iface 9 (.string (⟨#[109, 105, 110, 101]⟩ : ByteArray))), recovered := true }] ∧ Own w0 w' [R, Chunk.blk gc (.cells #[.int .i64 n] 38 (0, 0))] := by
  refine gs_start (N := 10) (vs := [.pointer (some ⟨gc, 0, none⟩)]) Try.func63 rfl rfl (by simp) fun c0 cs hu a HF => ?_
  refine gs_recover (got := .iface 9 (.string (⟨#[109, 105, 110, 101]⟩ : ByteArray))) (u' := (.panicking [{ v := (.iface 9 (.string (⟨#[109, 105, 110, 101]⟩ : ByteArray))), recovered := true }])) HF rfl rfl rfl (by decide) hu (by rfl) fun a HF => ?_
  refine wp_block ?_
  refine gw_seq fun K1 hK1 => ?_
  refine wp_region_lit ?_
  refine gw_ev HF (want_none rfl) rfl (by decide) (op_bin_run (r := .bool false) rfl (HF.ev rfl) (ev_c _ _) (by kernel_rfl)) ?_
  intro a2 HF3; clear HF
  refine wpList_nil ?_
  refine gw_nx (hK1 _ _ ?_)
  refine gw_cond HF3 rfl (fun hb4 => ?_) (fun hb4 => ?_)
  skip
  · cases hb4
  refine gw_seq fun K5 hK5 => ?_
  refine wp_region_lit ?_
  refine gw_ev HF3 (want_none rfl) rfl (by decide) (op_tassert (r := .tuple #[.agg #[], .bool false]) (by kernel_rfl) rfl (HF3.ev rfl)) ?_
  intro a6 HF7; clear HF3
  refine gw_ev HF7 (want_none rfl) rfl (by decide) (op_extract rfl (HF7.ev rfl) rfl) ?_
  intro a8 HF9; clear HF7
  refine gw_ev HF9 (want_none rfl) rfl (by decide) (op_extract rfl (HF9.ev rfl) rfl) ?_
  intro a10 HF11; clear HF9
  refine wpList_nil ?_
  refine gw_nx (hK5 _ _ ?_)
  refine gw_cond HF11 rfl (fun hb12 => ?_) (fun hb12 => ?_)
  skip
  · cases hb12
  refine gw_seq fun K13 hK13 => ?_
  refine wp_region_lit ?_
  refine gw_ev HF11 (want_none rfl) rfl (by decide) (op_assign rfl (HF11.ev rfl)) ?_
  intro a14 HF15; clear HF11
  refine wpList_nil ?_
  refine gw_nx (hK13 _ _ ?_)
  refine wp_region_lit ?_
  refine gw_ev HF15 (want_none rfl) rfl (by decide) (op_move rfl (HF15.ev rfl)) ?_
  intro a16 HF17; clear HF15
  refine gw_panic (want_none rfl) (panics_ rfl (HF17.ev rfl)) ?_
  refine gw_blp ?_
  refine gs_pan HF17 ?_
  exact ⟨rfl, rfl, HO.sel [0, 1] (by decide)⟩
set_option maxHeartbeats 4000000 in
set_option maxRecDepth 100000 in
theorem read_calls (w0 w : World) (R X : Chunk) (A : Option Addr) (c : Nat) (xs : List Int) (fid : Nat) (fn0 : Func) (cap : List Value) (Gd : Nat → Chunk → Prop) (Bd Md : Chunk → Prop) (h1 : Try.prog.funcs[fid]? = some fn0) (h2 : (fn0.name == "runtime.NumGoroutine") = false) (h3 : fn0.body.isSome = true) (hf : ∀ (R' : Chunk) (g : Nat) (w1 : World), (∀ w_, Own w0 w_ [R'] → Own w0 w_ [R]) → Own w0 w1 [R', Chunk.blk g (.cells #[.slice A xs.length c] 80 (0, 0)), X] → Calls Try.prog fid (([.pointer (some ⟨g, 0, none⟩)] : List Value) ++ cap).toArray w1 fun e w2 => (∃ A' n' c' Y, e = .returned (.tuple #[]) ∧ Gd n' Y ∧ Own w0 w2 [R', Chunk.blk g (.cells #[.slice A' n' c'] 80 (0, 0)), Y]) ∨ (∃ Y, e = .panicked [{ v := .iface 78 (.agg #[]), recovered := false }] ∧ Bd Y ∧ Own w0 w2 [R', Y]) ∨ (∃ Y, e = .panicked [{ v := .iface 9 (.string (⟨#[109, 105, 110, 101]⟩ : ByteArray)), recovered := false }] ∧ Md Y ∧ Own w0 w2 [R', Y])) (HO : Own w0 w [R, X]) :
    Calls Try.prog 31 #[.slice A xs.length c, .func (.func fid) #[] cap.toArray] w fun e w' => (∃ n' Y, e = .returned (.int .i64 (if n' = 0 then 0 else 80)) ∧ Gd n' Y ∧ Own w0 w' [R, Y]) ∨ (∃ Y, e = .returned (.int .i64 80) ∧ Bd Y ∧ Own w0 w' [R, Y]) ∨ (∃ Y, e = .panicked [{ v := (.iface 9 (.string (⟨#[109, 105, 110, 101]⟩ : ByteArray))), recovered := false }, { v := (.iface 9 (.string (⟨#[109, 105, 110, 101]⟩ : ByteArray))), recovered := true }] ∧ Md Y ∧ Own w0 w' [R, Y]) := by
  refine gw_startD (N := 21) (vs := [.slice A xs.length c, .func (.func fid) #[] cap.toArray]) Try.func31 rfl rfl (by simp) fun a HF => ?_
  refine gw_seq fun K1 hK1 => ?_
  refine wp_region_lit ?_
  refine gw_new HF HO (want_none rfl) rfl (by decide) (op_alloc gwzer38 rfl) ?_
  intro g2 a3 w4 HF5 HO6; clear HF HO
  have HO7 : Own w0 w4 [Chunk.blk g2 (.cells #[.int .i64 0] 38 (0, 0)), R, X] := HO6
  clear HO6
  refine wpList_nil ?_
  refine gw_nx (hK1 _ _ ?_)
  refine gw_seq fun K8 hK8 => ?_
  refine wp_region_lit ?_
  refine gw_ev HF5 (want_none rfl) rfl (by decide) (op_func rfl (ar_cons (HF5.ev rfl) ar_nil)) ?_
  intro a9 HF10; clear HF5
  refine gw_defer HF10 (want_none rfl) rfl rfl (HF10.ev rfl) ?_
  intro a11 HF12; clear HF10
  refine wpList_nil ?_
  refine gw_nx (hK8 _ _ ?_)
  refine gw_seq fun K13 hK13 => ?_
  refine wp_region_lit ?_
  refine gw_ev HF12 (want_none rfl) rfl (by decide) (op_move rfl (HF12.ev rfl)) ?_
  intro a14 HF15; clear HF12
  refine gw_ev HF15 (want_none rfl) rfl (by decide) (op_build (cells := #[.slice A xs.length c]) rfl (pt_cons (HF15.ev rfl) pt_nil) (by kernel_rfl)) ?_
  intro a16 HF17; clear HF15
  refine gw_new HF17 HO7 (want_none rfl) rfl (by decide) (op_box rfl (HF17.ev rfl)) ?_
  intro g18 a19 w20 HF21 HO22; clear HF17 HO7
  have HO23 : Own w0 w20 [Chunk.blk g18 (.cells #[.slice A xs.length c] 80 (0, 0)), Chunk.blk g2 (.cells #[.int .i64 0] 38 (0, 0)), R, X] := HO22
  clear HO22
  refine gw_ev HF21 (want_none rfl) rfl (by decide) (op_assign rfl (HF21.ev rfl)) ?_
  intro a24 HF25; clear HF21
  refine wpList_nil ?_
  refine gw_nx (hK13 _ _ ?_)
  refine gw_seq fun K26 hK26 => ?_
  refine wp_region_lit ?_
  refine gw_ev HF25 (want_none rfl) rfl (by decide) (op_move rfl (HF25.ev rfl)) ?_
  intro a27 HF28; clear HF25
  refine gw_ev HF28 (want_none rfl) rfl (by decide) (op_move rfl (HF28.ev rfl)) ?_
  intro a29 HF30; clear HF28
  have HO42 : Own w0 _ [(Chunk.all [Chunk.blk g2 (.cells #[.int .i64 0] 38 (0, 0)), R]), Chunk.blk g18 (.cells #[.slice A xs.length c] 80 (0, 0)), X] := Own.bundle (A := [Chunk.blk g2 (.cells #[.int .i64 0] 38 (0, 0)), R]) (L := [Chunk.blk g18 (.cells #[.slice A xs.length c] 80 (0, 0)), X]) (HO23.sel [1, 2, 0, 3] (by decide))
  refine gw_callP HF30 (want_none rfl) rfl (by decide) (op_callV h1 h2 h3 rfl (HF30.ev rfl) (ar_cons (HF30.ev rfl) ar_nil)) (hf (Chunk.all [Chunk.blk g2 (.cells #[.int .i64 0] 38 (0, 0)), R]) g18 _ (fun w_ h_ => (Own.unbundle (A := [Chunk.blk g2 (.cells #[.int .i64 0] 38 (0, 0)), R]) (L := []) h_).sel [1] (by decide)) HO42) ?_
  rintro e36 w37 (⟨A33, n34, c35, Y31, rfl, hG32, hb38⟩ | ⟨Y31, rfl, hG32, hb38⟩ | ⟨Y31, rfl, hG32, hb38⟩)
  rotate_left
  · skip
    refine .inr ⟨_, rfl, ?_⟩
    have HO43 : Own w0 w37 [Chunk.blk g2 (.cells #[.int .i64 0] 38 (0, 0)), R, Y31] := Own.unbundle (A := [Chunk.blk g2 (.cells #[.int .i64 0] 38 (0, 0)), R]) (L := [Y31]) hb38
    refine gw_thp ?_
    refine gw_dpan HF30 ?_
    refine leaves_cons (f := 63) (args := #[.pointer (some ⟨g2, 0, none⟩)]) (by simp) (invoke_fn Try.func63 (by kernel_rfl) rfl _) ?_
    refine (readd_bad w0 _ (Chunk.all [R, Y31]) g2 0 (Own.bundle (A := [R, Y31]) (L := [Chunk.blk g2 (.cells #[.int .i64 0] 38 (0, 0))]) (HO43.sel [1, 2, 0] (by decide)))).mono ?_
    rintro e_ u_ w_ ⟨rfl, rfl, hO_⟩
    replace hO_ := (Own.unbundle (A := [R, Y31]) (L := [Chunk.blk g2 (.cells #[.int .i64 80] 38 (0, 0))]) hO_)
    refine gl_ret1 rfl (rv_cell1 HF30 rfl gwagg38 (blk_at (hO_.get 2 rfl) rfl)) ?_
    exact .inr (.inl ⟨_, rfl, hG32, hO_.sel [0, 1] (by decide)⟩)
  skip
  · skip
    refine .inr ⟨_, rfl, ?_⟩
    have HO44 : Own w0 w37 [Chunk.blk g2 (.cells #[.int .i64 0] 38 (0, 0)), R, Y31] := Own.unbundle (A := [Chunk.blk g2 (.cells #[.int .i64 0] 38 (0, 0)), R]) (L := [Y31]) hb38
    refine gw_thp ?_
    refine gw_dpan HF30 ?_
    refine leaves_cons (f := 63) (args := #[.pointer (some ⟨g2, 0, none⟩)]) (by simp) (invoke_fn Try.func63 (by kernel_rfl) rfl _) ?_
    refine (readd_mine w0 _ (Chunk.all [R, Y31]) g2 0 (Own.bundle (A := [R, Y31]) (L := [Chunk.blk g2 (.cells #[.int .i64 0] 38 (0, 0))]) (HO44.sel [1, 2, 0] (by decide)))).mono ?_
    rintro e_ u_ w_ ⟨rfl, rfl, hO_⟩
    replace hO_ := (Own.unbundle (A := [R, Y31]) (L := [Chunk.blk g2 (.cells #[.int .i64 0] 38 (0, 0))]) hO_)
    exact .inr (.inr ⟨_, rfl, hG32, hO_.sel [0, 1] (by decide)⟩)
  refine .inl ⟨_, rfl, fun a39 HF40 => ?_⟩
  have HO41 : Own w0 w37 [Chunk.blk g2 (.cells #[.int .i64 0] 38 (0, 0)), R, Chunk.blk g18 (.cells #[.slice A33 n34 c35] 80 (0, 0)), Y31] := Own.unbundle (A := [Chunk.blk g2 (.cells #[.int .i64 0] 38 (0, 0)), R]) (L := [Chunk.blk g18 (.cells #[.slice A33 n34 c35] 80 (0, 0)), Y31]) (hb38.sel [0, 1, 2] (by decide))
  clear HO42
  clear HF30 HO23 hb38
  have HO46 : Own w0 w37 [Chunk.blk g2 (.cells #[.int .i64 0] 38 (0, 0)), R, Chunk.blk g18 (.cells #[.slice A33 n34 c35] 80 (0, 0)), Y31] := HO41
  clear HO41
  refine wpList_nil ?_
  refine gw_nx (hK26 _ _ ?_)
  refine gw_seq fun K47 hK47 => ?_
  refine wp_region_lit ?_
  refine gw_ev HF40 (want_none rfl) rfl (by decide) (op_move rfl (HF40.ev rfl)) ?_
  intro a48 HF49; clear HF40
  refine gw_ev HF49 (want_none rfl) rfl (by decide) (op_move rfl (HF49.ev rfl)) ?_
  intro a50 HF51; clear HF49
  refine gw_ev HF51 (want_none rfl) rfl (by decide) (op_nil rfl (HF51.ev rfl)) ?_
  intro a52 HF53; clear HF51
  refine gw_ev HF53 (want_none rfl) rfl (by decide) (op_field (gwfld80_0 _ _) rfl (HF53.ev rfl)) ?_
  intro a54 HF55; clear HF53
  refine gw_ev HF55 (want_none rfl) rfl (by decide) (op_load1 gwagg22 rfl (HF55.ev rfl) (blk_at (HO46.get 2 rfl) rfl)) ?_
  intro a56 HF57; clear HF55
  refine gw_ev HF57 (want_none rfl) rfl (by decide) (op_len Try.underlying22 rfl (HF57.ev rfl)) ?_
  intro a58 HF59; clear HF57
  refine gw_ev HF59 (want_none rfl) rfl (by decide) (op_eqi rfl (HF59.ev rfl) (ev_c _ _)) ?_
  intro a60 HF61; clear HF59
  refine gw_callP HF61 (want_none rfl) rfl (by decide) (op_callL Try.func33 (by kernel_rfl) rfl rfl (ar_cons (HF61.ev rfl) (ar_cons (HF61.ev rfl) ar_nil))) (GRead_.need_calls ⟨g18, 0, none⟩ (decide ((n34 : Int) = 0)) _) ?_
  rintro e63 w64 (⟨hn62, rfl, hb65⟩ | ⟨hn62, rfl, hb65⟩)
  rotate_left
  · skip
    refine .inr ⟨_, rfl, ?_⟩
    have HO69 := HO46.after hb65
    (try simp only [Bool.and_eq_true, Bool.or_eq_true, Bool.and_eq_false_iff, Bool.or_eq_false_iff, Bool.not_and, Bool.not_or, Bool.not_not, decide_eq_true_eq, decide_eq_false_iff_not, Bool.not_eq_true', Bool.not_eq_false', Bool.not_eq_true, Bool.not_eq_false, ne_eq, Decidable.not_not, Int.not_lt, Int.not_le, not_true_eq_false, not_false_eq_true, bne_iff_ne, beq_iff_eq, bne_eq_false_iff_eq, beq_eq_false_iff_ne] at hn62)
    refine gw_thp ?_
    refine gw_dpan HF61 ?_
    refine leaves_cons (f := 63) (args := #[.pointer (some ⟨g2, 0, none⟩)]) (by simp) (invoke_fn Try.func63 (by kernel_rfl) rfl _) ?_
    refine (readd_bad w0 _ (Chunk.all [R, Chunk.blk g18 (.cells #[.slice A33 n34 c35] 80 (0, 0)), Y31]) g2 0 (Own.bundle (A := [R, Chunk.blk g18 (.cells #[.slice A33 n34 c35] 80 (0, 0)), Y31]) (L := [Chunk.blk g2 (.cells #[.int .i64 0] 38 (0, 0))]) (HO69.sel [1, 2, 3, 0] (by decide)))).mono ?_
    rintro e_ u_ w_ ⟨rfl, rfl, hO_⟩
    replace hO_ := (Own.unbundle (A := [R, Chunk.blk g18 (.cells #[.slice A33 n34 c35] 80 (0, 0)), Y31]) (L := [Chunk.blk g2 (.cells #[.int .i64 80] 38 (0, 0))]) hO_)
    refine gl_ret1 rfl (rv_cell1 HF61 rfl gwagg38 (blk_at (hO_.get 3 rfl) rfl)) ?_
    exact .inl ⟨_, _, (by rw [if_neg (by omega)]; rfl), hG32, hO_.sel [0, 2] (by decide)⟩
  refine .inl ⟨_, rfl, fun a66 HF67 => ?_⟩
  have HO68 := HO46.after hb65
  clear HF61 HO46 hb65
  (try simp only [Bool.and_eq_true, Bool.or_eq_true, Bool.and_eq_false_iff, Bool.or_eq_false_iff, Bool.not_and, Bool.not_or, Bool.not_not, decide_eq_true_eq, decide_eq_false_iff_not, Bool.not_eq_true', Bool.not_eq_false', Bool.not_eq_true, Bool.not_eq_false, ne_eq, Decidable.not_not, Int.not_lt, Int.not_le, not_true_eq_false, not_false_eq_true, bne_iff_ne, beq_iff_eq, bne_eq_false_iff_eq, beq_eq_false_iff_ne] at hn62)
  refine wpList_nil ?_
  refine gw_nx (hK47 _ _ ?_)
  refine gw_seq fun K71 hK71 => ?_
  refine wp_region_lit ?_
  refine gw_set 0 HF67 HO68 rfl (want_none rfl) rfl (op_store1 gwsiz38 rfl (HF67.ev rfl) (ev_c _ _) rfl (blk_at (HO68.get 0 rfl) rfl) (blkf (HO68.get 0 rfl))) ?_
  intro a72 w74 HF73 HO75; clear HF67 HO68
  have HO76 : Own w0 w74 [Chunk.blk g2 (.cells #[.int .i64 0] 38 (0, 0)), R, Chunk.blk g18 (.cells #[.slice A33 n34 c35] 80 (0, 0)), Y31] := HO75
  clear HO75
  refine wpList_nil ?_
  refine gw_nx (hK71 _ _ ?_)
  refine wp_ret ?_
  refine gw_dret HF73 ?_
  refine leaves_cons (f := 63) (args := #[.pointer (some ⟨g2, 0, none⟩)]) (by simp) (invoke_fn Try.func63 (by kernel_rfl) rfl _) ?_
  refine (readd_ok w0 _ (Chunk.all [R, Chunk.blk g18 (.cells #[.slice A33 n34 c35] 80 (0, 0)), Y31]) g2 0 (Own.bundle (A := [R, Chunk.blk g18 (.cells #[.slice A33 n34 c35] 80 (0, 0)), Y31]) (L := [Chunk.blk g2 (.cells #[.int .i64 0] 38 (0, 0))]) (HO76.sel [1, 2, 3, 0] (by decide)))).mono ?_
  rintro e_ u_ w_ ⟨rfl, rfl, hO_⟩
  replace hO_ := (Own.unbundle (A := [R, Chunk.blk g18 (.cells #[.slice A33 n34 c35] 80 (0, 0)), Y31]) (L := [Chunk.blk g2 (.cells #[.int .i64 0] 38 (0, 0))]) hO_)
  refine gl_ret1 rfl (rv_cell1 HF73 rfl gwagg38 (blk_at (hO_.get 3 rfl) rfl)) ?_
  exact .inl ⟨_, _, (by rw [if_pos (by omega)]; rfl), hG32, hO_.sel [0, 2] (by decide)⟩
end GRead_
end Go.Proofs.Ytmlemnfleicnfaa.PA
