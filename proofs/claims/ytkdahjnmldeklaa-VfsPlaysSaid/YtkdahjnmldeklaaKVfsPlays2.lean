/- What this claim uses of this session's own texts, put together by a program: GRefW HRef HRef2 GRef0 HRef3 GRef1 HRef4. -/
import Derived.Test.YtkdahjnmldeklaaKVfsPlays1
import Derived.Test.YtkdahjnmldeklaaProg
import Derived.Test.YtkdahjnmldeklaaRows
section
namespace Go.Proofs.Ytkdahjnmldeklaa.PA
open Go.RowKit Go.Proofs.YtkdahjnmldeklaaW.PrintWords Go.Proofs.YtkdahjnmldeklaaW.PrintLast Go.Proofs.YtkdahjnmldeklaaW.PrintMore
set_option linter.unusedVariables false
set_option linter.unusedSimpArgs false
namespace GRefW_
theorem gwagg48 : ∀ w, (isAgg 48).run Try.prog w = .ok false w := fun _ => by kernel_rfl
theorem gwagg50 : ∀ w, (isAgg 50).run Try.prog w = .ok true w := fun _ => by kernel_rfl
theorem gwagg9 : ∀ w, (isAgg 9).run Try.prog w = .ok false w := fun _ => by kernel_rfl
theorem gwagg93 : ∀ w, (isAgg 93).run Try.prog w = .ok true w := fun _ => by kernel_rfl
theorem gwfld50_0 (g off : Nat) : ∀ w, (Instr.fieldAt 50 (.pointer (some ⟨g, off, none⟩)) 0).run Try.prog w = .ok (.pointer (some ⟨g, off + 0, none⟩)) w := fun _ => by kernel_rfl
theorem gwfld93_0 (g off : Nat) : ∀ w, (Instr.fieldAt 93 (.pointer (some ⟨g, off, none⟩)) 0).run Try.prog w = .ok (.pointer (some ⟨g, off + 0, none⟩)) w := fun _ => by kernel_rfl
theorem gwflda93_0 (ad : Addr) : ∀ w, (Instr.fieldAt 93 (.pointer (some ad)) 0).run Try.prog w = .ok (.pointer (some (ad.add 0))) w := fun _ => by kernel_rfl
theorem gwinfo93 : (Try.prog.info? 93).map (fun i => (i.zero, i.size, i.bytes)) = some (some (.agg #[.string (⟨#[]⟩ : ByteArray), .slice none 0 0, .int .i64 0]), 3, 48) := by kernel_rfl
theorem gwsiz48 : ∀ w, (sizeOf 48).run Try.prog w = .ok 1 w := fun _ => by kernel_rfl
theorem gwsiz50 : ∀ w, (sizeOf 50).run Try.prog w = .ok 4 w := fun _ => by kernel_rfl
theorem gwsiz93 : ∀ w, (sizeOf 93).run Try.prog w = .ok 3 w := fun _ => by kernel_rfl
theorem gwzer50 : ∀ w, (zeroValue 50).run Try.prog w = .ok (.agg #[.slice none 0 0, .int .i64 0, .int .i64 0, .bool false]) w := fun _ => by kernel_rfl
set_option maxHeartbeats 4000000 in
set_option maxRecDepth 100000 in
theorem with_calls (P : Nat → Prop) (Af : Option Addr) (cf : Nat) (files : List S93) (most fuse : Int) (down : Bool) (f0 : ByteArray) (Ab : Option Addr) (cb : Nat) (fb : List Int) (fsf : Int) (w : World) (hP : ∀ k, P k → k < w.heap.size) (hF : Kd.F k93 w P Af files.length files) (hcf : files.length ≤ cf) (hB : Kd.F (Kd.int .u8) w P Ab fb.length fb) (hcb : fb.length ≤ cb) (hlf : files.length ≤ 1000000) :
    Calls Try.prog 56 #[.agg #[.slice Af files.length cf, .int .i64 most, .int .i64 fuse, .bool down], .agg #[.string f0, .slice Ab fb.length cb, .int .i64 fsf]] w fun e w' => ∃ A' c', e = .returned (.agg #[.slice A' (withL (⟨f0, fb, fsf⟩ : S93) files false).length c', .int .i64 most, .int .i64 fuse, .bool down]) ∧ Kd.N k93 93 w' w.heap.size (fun k => P k ∨ w.heap.size ≤ k) (.slice A' (withL (⟨f0, fb, fsf⟩ : S93) files false).length c') (withL (⟨f0, fb, fsf⟩ : S93) files false) ∧ Below w.heap.size w w' := by
 refine gw_start (N := 59) (vs := [.agg #[.slice Af files.length cf, J most, J fuse, .bool down], .agg #[.string f0, .slice Ab fb.length cb, J fsf]]) Try.func56 rfl rfl (by simp) fun a HF HO => ?_
 replace HO : Own w w [] := HO
 refine gw_seq fun K1 hK1 => ?_
 refine wp_region_lit ?_
 refine gw_new HF HO (want_none rfl) rfl (by decide) (op_box rfl (HF.ev rfl)) ?_
 intro g2 _ w4 H5 O6; clear HF HO
 have O7 : Own w w4 [Bk g2 [.slice Af files.length cf, J most, J fuse, .bool down] 50] := O6
 clear O6
 refine gw_new H5 O7 (want_none rfl) rfl (by decide) (op_box rfl (H5.ev rfl)) ?_
 intro g8 _ w10 H11 O12; clear H5 O7
 have O13 : Own w w10 [Bk g8 [.string f0, .slice Ab fb.length cb, J fsf] 93, Bk g2 [.slice Af files.length cf, J most, J fuse, .bool down] 50] := O12
 clear O12
 refine gw_new H11 O13 (want_none rfl) rfl (by decide) (op_alloc gwzer50 rfl) ?_
 intro g14 _ w16 H17 O18; clear H11 O13
 have O19 : Own w w16 [Bk g14 [.slice none 0 0, J 0, J 0, .bool false] 50, Bk g8 [.string f0, .slice Ab fb.length cb, J fsf] 93, Bk g2 [.slice Af files.length cf, J most, J fuse, .bool down] 50] := O18
 clear O18
 refine wpList_nil ?_
 refine gw_nx (hK1 _ _ ?_)
 refine gw_seq fun K20 hK20 => ?_
 refine wp_region_lit ?_
 refine gw_plit0 k93 P (e := 93) H17 O19 (want_none rfl) rfl (by decide) (op_bslice (by kernel_rfl) rfl pt_nil) hP ?_
 intro A21 S22 _ w24 H25 O26; clear H17 O19
 have O27 : Own w w24 [Chunk.prow w P k93 93 w.heap.size S22 (.slice A21 (([] : List S93).length) 0) ([] : List S93), Bk g14 [.slice none 0 0, J 0, J 0, .bool false] 50, Bk g8 [.string f0, .slice Ab fb.length cb, J fsf] 93, Bk g2 [.slice Af files.length cf, J most, J fuse, .bool down] 50] := O26
 clear O26
 refine V H25 (op_assign rfl (H25.ev rfl)) ?_
 intro _ H29; clear H25
 refine wpList_nil ?_
 refine gw_nx (hK20 _ _ ?_)
 refine gw_seq fun K30 hK30 => ?_
 refine wp_region_lit ?_
 refine V H29 (op_assign rfl (ev_c _ _)) ?_
 intro _ H32; clear H29
 refine wpList_nil ?_
 refine gw_nx (hK30 _ _ ?_)
 refine gw_seq fun K33 hK33 => ?_
 refine gw_seq fun K34 hK34 => ?_
 refine wp_region_lit ?_
 refine V H32 (op_assign rfl (ev_c _ _)) ?_
 intro _ H36; clear H32
 refine wpList_nil ?_
 refine gw_nx (hK34 _ _ ?_)
 refine wp_block ?_
 refine gw_loop (fun m_ a_ w_ => ∃ (i : Int) (out : List S93) (Ao : Option Addr) (co : Nat) (So : Nat → Prop) (dn : Bool), Fr 59 a_ [(7, J i), (5, .slice Ao out.length co), (6, .bool dn), (2, .pointer (some ⟨g2, 0, none⟩)), (3, .pointer (some ⟨g8, 0, none⟩)), (4, .pointer (some ⟨g14, 0, none⟩))] ∧ Own w w_ [Chunk.prow w P k93 93 w.heap.size So (.slice Ao out.length co) out, Bk g14 [.slice none 0 0, J 0, J 0, .bool false] 50, Bk g8 [.string f0, .slice Ab fb.length cb, J fsf] 93, Bk g2 [.slice Af files.length cf, J most, J fuse, .bool down] 50] ∧ (0 ≤ i ∧ i ≤ files.length) ∧ (out ++ withL (⟨f0, fb, fsf⟩ : S93) (files.drop i.toNat) dn = withL (⟨f0, fb, fsf⟩ : S93) files false) ∧ ((out.length : Int) ≤ 2 * i) ∧ m_ = (files.length - i.toNat)) ((files.length - (0 : Int).toNat)) ?_ ?_
 ·
  refine ⟨0, [], A21, 0, _, false, (H36.pick (t := 7) rfl (H36.pick (t := 5) rfl (H36.pick (t := 6) rfl (H36.pick (t := 2) rfl (H36.pick (t := 3) rfl (H36.pick (t := 4) rfl H36.nil)))))), O27.sel [0, 1, 2, 3] (by decide), ?_, ?_, ?_, rfl⟩
  ·
   omega
  ·
   simp
  ·
   simp
 ·
  rintro m38 _ w40 ⟨i, out, Ao, co, So, dn, H41, O42, hi, hW, hlo, hm43⟩
  refine gw_seq fun K44 hK44 => ?_
  refine gw_seq fun K45 hK45 => ?_
  refine wp_region_lit ?_
  refine V H41 (op_move rfl (H41.ev rfl)) ?_
  intro _ H47; clear H41
  refine V H47 (op_field (gwfld50_0 _ _) rfl (H47.ev rfl)) ?_
  intro _ H49; clear H47
  refine V H49 (op_load1 gwagg48 rfl (H49.ev rfl) (blk_at (O42.get 3 rfl) rfl)) ?_
  intro _ H51; clear H49
  refine V H51 (op_len Try.underlying48 rfl (H51.ev rfl)) ?_
  intro _ H53; clear H51
  refine V H53 (op_lss rfl (H53.ev rfl) (H53.ev rfl)) ?_
  intro _ H55; clear H53
  refine wpList_nil ?_
  refine gw_nx (hK45 _ _ ?_)
  refine gw_cond H55 rfl (fun hb56 => ?_) (fun hb56 => ?_)
  ·
   have H57 := H55.subst_ (d := 13) (b := true) rfl hb56
   clear H55
   (try simp only [decide_eq_true_eq] at hb56)
   refine wp_skip ?_
   refine gw_nx (hK44 _ _ ?_)
   refine gw_seq fun K58 hK58 => ?_
   refine wp_block ?_
   refine gw_seq fun K59 hK59 => ?_
   refine gw_seq fun K60 hK60 => ?_
   refine gw_drawB O42 (by kernel_rfl) (by kernel_rfl) fun w61 O62 => ?_
   clear O42
   refine gq_ev H57 (want_none rfl) rfl (by decide) (fun wq hq => have HO := O62.after hq; (op_move rfl (H57.ev rfl))) ?_
   intro _ H64; clear H57
   refine gq_ev H64 (want_none rfl) rfl (by decide) (fun wq hq => have HO := O62.after hq; (op_not rfl (H64.ev rfl))) ?_
   intro _ H66; clear H64
   refine gq_ev H66 (want_none rfl) rfl (by decide) (fun wq hq => have HO := O62.after hq; (op_move rfl (H66.ev rfl))) ?_
   intro _ H68; clear H66
   refine gq_evG H68 rfl rfl rfl rfl (on_t _) rfl (by decide) (fun h_ wq hq => have HO := O62.after hq; (op_field (gwfld50_0 _ _) rfl (H68.ev rfl))) ?_
   intro _ H70; clear H68
   refine gq_evG H70 rfl rfl rfl rfl (on_t _) rfl (by decide) (fun h_ wq hq => have HO := O62.after hq; (op_load1 gwagg48 rfl (ev_gv (H70.ev rfl) h_) (blk_at (HO.get 3 rfl) rfl))) ?_
   intro _ H72; clear H70
   refine gq_evG H72 rfl rfl rfl rfl (on_t _) rfl (by decide) (fun h_ wq hq => have HO := O62.after hq; (op_move rfl (H72.ev rfl))) ?_
   intro _ H74; clear H72
   obtain ⟨ad78, cs81, hA79, hl82, hK83, hc80⟩ := F_getT hF z93 i (⟨_, fun _ _ => k93_mk _ z93 (A1 := none) (c1 := 0) (Nat.le_refl _) (Kd.C_nil _ _)⟩)
   obtain ⟨A84, c85, rfl, hl86, hC87⟩ := k93_openF hK83
   clear hl82
   refine gq_evG H74 rfl rfl rfl rfl (on_t _) rfl (by decide) (fun h_ wq hq => have HO := O62.after hq; (op_index Try.underlying48 gwsiz93 rfl (ev_gv (H74.ev rfl) h_) (ev_gv (H74.ev rfl) h_) (hA79 ⟨by (try simp only [Bool.and_eq_true, Bool.or_eq_true, Bool.and_eq_false_iff, Bool.or_eq_false_iff, Bool.not_and, Bool.not_or, Bool.not_not, decide_eq_true_eq, decide_eq_false_iff_not, Bool.not_eq_true', Bool.not_eq_false', Bool.not_eq_true, Bool.not_eq_false, ne_eq, Decidable.not_not, Int.not_lt, Int.not_le, not_true_eq_false, not_false_eq_true, bne_iff_ne, beq_iff_eq, bne_eq_false_iff_eq, beq_eq_false_iff_ne] at h_); omega, by (try simp only [Bool.and_eq_true, Bool.or_eq_true, Bool.and_eq_false_iff, Bool.or_eq_false_iff, Bool.not_and, Bool.not_or, Bool.not_not, decide_eq_true_eq, decide_eq_false_iff_not, Bool.not_eq_true', Bool.not_eq_false', Bool.not_eq_true, Bool.not_eq_false, ne_eq, Decidable.not_not, Int.not_lt, Int.not_le, not_true_eq_false, not_false_eq_true, bne_iff_ne, beq_iff_eq, bne_eq_false_iff_eq, beq_eq_false_iff_ne] at h_); omega⟩) (⟨by (try simp only [Bool.and_eq_true, Bool.or_eq_true, Bool.and_eq_false_iff, Bool.or_eq_false_iff, Bool.not_and, Bool.not_or, Bool.not_not, decide_eq_true_eq, decide_eq_false_iff_not, Bool.not_eq_true', Bool.not_eq_false', Bool.not_eq_true, Bool.not_eq_false, ne_eq, Decidable.not_not, Int.not_lt, Int.not_le, not_true_eq_false, not_false_eq_true, bne_iff_ne, beq_iff_eq, bne_eq_false_iff_eq, beq_eq_false_iff_ne] at h_); omega, by (try simp only [Bool.and_eq_true, Bool.or_eq_true, Bool.and_eq_false_iff, Bool.or_eq_false_iff, Bool.not_and, Bool.not_or, Bool.not_not, decide_eq_true_eq, decide_eq_false_iff_not, Bool.not_eq_true', Bool.not_eq_false', Bool.not_eq_true, Bool.not_eq_false, ne_eq, Decidable.not_not, Int.not_lt, Int.not_le, not_true_eq_false, not_false_eq_true, bne_iff_ne, beq_iff_eq, bne_eq_false_iff_eq, beq_eq_false_iff_ne] at h_); omega⟩))) ?_
   intro _ H89; clear H74
   refine gq_evG H89 rfl rfl rfl rfl (on_t _) rfl (by decide) (fun h_ wq hq => have HO := O62.after hq; (op_field (gwflda93_0 _) rfl (ev_gv (H89.ev rfl) h_))) ?_
   intro _ H91; clear H89
   refine gq_evG H91 rfl rfl rfl rfl (on_t _) rfl (by decide) (fun h_ wq hq => have HO := O62.after hq; (op_load1 gwagg9 rfl (ev_gv (H91.ev rfl) h_) ((cells0 HO (hc80 ⟨by (try simp only [Bool.and_eq_true, Bool.or_eq_true, Bool.and_eq_false_iff, Bool.or_eq_false_iff, Bool.not_and, Bool.not_or, Bool.not_not, decide_eq_true_eq, decide_eq_false_iff_not, Bool.not_eq_true', Bool.not_eq_false', Bool.not_eq_true, Bool.not_eq_false, ne_eq, Decidable.not_not, Int.not_lt, Int.not_le, not_true_eq_false, not_false_eq_true, bne_iff_ne, beq_iff_eq, bne_eq_false_iff_eq, beq_eq_false_iff_ne] at h_); omega, by (try simp only [Bool.and_eq_true, Bool.or_eq_true, Bool.and_eq_false_iff, Bool.or_eq_false_iff, Bool.not_and, Bool.not_or, Bool.not_not, decide_eq_true_eq, decide_eq_false_iff_not, Bool.not_eq_true', Bool.not_eq_false', Bool.not_eq_true, Bool.not_eq_false, ne_eq, Decidable.not_not, Int.not_lt, Int.not_le, not_true_eq_false, not_false_eq_true, bne_iff_ne, beq_iff_eq, bne_eq_false_iff_eq, beq_eq_false_iff_ne] at h_); omega⟩) 0 _ rfl)))) ?_
   intro _ H93; clear H91
   refine gq_evG H93 rfl rfl rfl rfl (on_t _) rfl (by decide) (fun h_ wq hq => have HO := O62.after hq; (op_field (gwfld93_0 _ _) rfl (H93.ev rfl))) ?_
   intro _ H95; clear H93
   refine gq_evG H95 rfl rfl rfl rfl (on_t _) rfl (by decide) (fun h_ wq hq => have HO := O62.after hq; (op_load1 gwagg9 rfl (ev_gv (H95.ev rfl) h_) (blk_at (HO.get 2 rfl) rfl))) ?_
   intro _ H97; clear H95
   refine gq_evG H97 rfl rfl rfl rfl (on_t _) rfl (by decide) (fun h_ wq hq => have HO := O62.after hq; (op_ges rfl (ev_gv (H97.ev rfl) h_) (ev_gv (H97.ev rfl) h_))) ?_
   intro _ H99; clear H97
   refine gq_ev H99 (want_none rfl) rfl (by decide) (fun wq hq => have HO := O62.after hq; (op_pick_and rfl (H99.ev rfl) (fun hp_ => (ev_gv (H99.ev rfl) hp_)) (ev_c _ _))) ?_
   intro _ H101; clear H99
   refine wpQuiet_nil ?_
   intro w102 hq
   have O103 := O62.after hq
   clear O62 hq
   refine gw_nx (hK60 _ _ ?_)
   refine gw_cond H101 rfl (fun hb104 => ?_) (fun hb104 => ?_)
   ·
    have H105 := H101.subst_ (d := 28) (b := true) rfl hb104
    clear H101
    (try simp only [Bool.and_eq_true, Bool.or_eq_true, Bool.and_eq_false_iff, Bool.or_eq_false_iff, Bool.not_and, Bool.not_or, Bool.not_not, decide_eq_true_eq, decide_eq_false_iff_not, Bool.not_eq_true', Bool.not_eq_false', Bool.not_eq_true, Bool.not_eq_false, ne_eq, Decidable.not_not, Int.not_lt, Int.not_le, not_true_eq_false, not_false_eq_true, bne_iff_ne, beq_iff_eq, bne_eq_false_iff_eq, beq_eq_false_iff_ne] at hb104)
    have h28 := hb104
    refine gw_seq fun K106 hK106 => ?_
    refine wp_region_lit ?_
    refine V H105 (op_move rfl (H105.ev rfl)) ?_
    intro _ H108; clear H105
    refine V H108 (op_loadn gwagg93 gwsiz93 rfl (H108.ev rfl) (O103.get 2 rfl) rfl rfl) ?_
    intro _ H110; clear H108
    refine gw_news (O := .cells #[.string f0, .slice Ab fb.length cb, J fsf] 93 (0, 0)) (n := 1) H110 O103 (want_none rfl) rfl (by decide) (op_bslice (by kernel_rfl) rfl (pt_cons (H110.ev rfl) pt_nil)) ?_
    intro g111 _ w113 H114 O115; clear H110 O103
    have O116 : Own w w113 [Bk g111 [.string f0, .slice Ab fb.length cb, J fsf] 93, Chunk.prow w P k93 93 w.heap.size So (.slice Ao out.length co) out, Bk g14 [.slice none 0 0, J 0, J 0, .bool false] 50, Bk g8 [.string f0, .slice Ab fb.length cb, J fsf] 93, Bk g2 [.slice Af files.length cf, J most, J fuse, .bool down] 50] := O115
    clear O115
    refine gw_pappend1 k93 (cs := [.string f0, .slice Ab fb.length cb, J fsf]) (p := (⟨f0, fb, fsf⟩ : S93)) hP H114 (by exact O116.sel [1, 0, 2, 3, 4] (by decide)) (want_none rfl) rfl (by decide) rfl Try.underlying48 gwinfo93 rfl (by decide) (by decide) (H114.ev rfl) (H114.ev rfl) (k93_mkF _ _ (⟨f0, fb, fsf⟩ : S93) hcb hB) O116.below.size (by first | omega | (simp; omega)) ?_
    intro A117 c118 S119 _ w121 H122 O123; clear H114 O116
    have O124 : Own w w121 [Chunk.prow w P k93 93 w.heap.size S119 (.slice A117 ((out ++ [(⟨f0, fb, fsf⟩ : S93)]).length) c118) (out ++ [(⟨f0, fb, fsf⟩ : S93)]), Bk g14 [.slice none 0 0, J 0, J 0, .bool false] 50, Bk g8 [.string f0, .slice Ab fb.length cb, J fsf] 93, Bk g2 [.slice Af files.length cf, J most, J fuse, .bool down] 50] := O123
    clear O123
    refine V H122 (op_assign rfl (H122.ev rfl)) ?_
    intro _ H126; clear H122
    refine wpList_nil ?_
    refine gw_nx (hK106 _ _ ?_)
    refine wp_region_lit ?_
    refine V H126 (op_assign rfl (ev_c _ _)) ?_
    intro _ H128; clear H126
    refine wpList_nil ?_
    refine gw_nx (hK59 _ _ ?_)
    refine gw_seq fun K129 hK129 => ?_
    refine gw_drawB O124 (by kernel_rfl) (by kernel_rfl) fun w130 O131 => ?_
    clear O124
    refine gq_ev H128 (want_none rfl) rfl (by decide) (fun wq hq => have HO := O131.after hq; (op_field (gwfld50_0 _ _) rfl (H128.ev rfl))) ?_
    intro _ H133; clear H128
    refine gq_ev H133 (want_none rfl) rfl (by decide) (fun wq hq => have HO := O131.after hq; (op_load1 gwagg48 rfl (H133.ev rfl) (blk_at (HO.get 3 rfl) rfl))) ?_
    intro _ H135; clear H133
    refine gq_ev H135 (want_none rfl) rfl (by decide) (fun wq hq => have HO := O131.after hq; (op_move rfl (H135.ev rfl))) ?_
    intro _ H137; clear H135
    obtain ⟨ad138, cs141, hA139, hl142, hK143, hc140, _⟩ := Kd.F_get hF z93 i (by omega) (by omega)
    obtain ⟨A144, c145, rfl, hl146, hC147⟩ := k93_openF hK143
    clear hl142
    refine gq_ev H137 (want_none rfl) rfl (by decide) (fun wq hq => have HO := O131.after hq; (op_index Try.underlying48 gwsiz93 rfl (H137.ev rfl) (H137.ev rfl) hA139 (⟨by omega, by omega⟩))) ?_
    intro _ H149; clear H137
    refine gq_ev H149 (want_none rfl) rfl (by decide) (fun wq hq => have HO := O131.after hq; (op_field (gwflda93_0 _) rfl (H149.ev rfl))) ?_
    intro _ H151; clear H149
    refine gq_ev H151 (want_none rfl) rfl (by decide) (fun wq hq => have HO := O131.after hq; (op_load1 gwagg9 rfl (H151.ev rfl) ((cells0 HO hc140 0 _ rfl)))) ?_
    intro _ H153; clear H151
    refine gq_ev H153 (want_none rfl) rfl (by decide) (fun wq hq => have HO := O131.after hq; (op_field (gwfld93_0 _ _) rfl (H153.ev rfl))) ?_
    intro _ H155; clear H153
    refine gq_ev H155 (want_none rfl) rfl (by decide) (fun wq hq => have HO := O131.after hq; (op_load1 gwagg9 rfl (H155.ev rfl) (blk_at (HO.get 2 rfl) rfl))) ?_
    intro _ H157; clear H155
    refine gq_ev H157 (want_none rfl) rfl (by decide) (fun wq hq => have HO := O131.after hq; (op_nes rfl (H157.ev rfl) (H157.ev rfl))) ?_
    intro _ H159; clear H157
    refine wpQuiet_nil ?_
    intro w160 hq
    have O161 := O131.after hq
    clear O131 hq
    refine gw_nx (hK129 _ _ ?_)
    refine gw_cond H159 rfl (fun hb162 => ?_) (fun hb162 => ?_)
    ·
     have H163 := H159.subst_ (d := 41) (b := true) rfl hb162
     clear H159
     (try simp only [Bool.and_eq_true, Bool.or_eq_true, Bool.and_eq_false_iff, Bool.or_eq_false_iff, Bool.not_and, Bool.not_or, Bool.not_not, decide_eq_true_eq, decide_eq_false_iff_not, Bool.not_eq_true', Bool.not_eq_false', Bool.not_eq_true, Bool.not_eq_false, ne_eq, Decidable.not_not, Int.not_lt, Int.not_le, not_true_eq_false, not_false_eq_true, bne_iff_ne, beq_iff_eq, bne_eq_false_iff_eq, beq_eq_false_iff_ne] at hb162)
     have h41 := hb162
     refine wp_region_lit ?_
     refine V H163 (op_move rfl (H163.ev rfl)) ?_
     intro _ H165; clear H163
     refine V H165 (op_field (gwfld50_0 _ _) rfl (H165.ev rfl)) ?_
     intro _ H167; clear H165
     refine V H167 (op_load1 gwagg48 rfl (H167.ev rfl) (blk_at (O161.get 3 rfl) rfl)) ?_
     intro _ H169; clear H167
     refine V H169 (op_move rfl (H169.ev rfl)) ?_
     intro _ H171; clear H169
     obtain ⟨ad172, cs175, hA173, hl176, hK177, hc174, _⟩ := Kd.F_get hF z93 i (by omega) (by omega)
     obtain ⟨A178, c179, rfl, hl180, hC181⟩ := k93_openF hK177
     clear hl176
     refine V H171 (op_index Try.underlying48 gwsiz93 rfl (H171.ev rfl) (H171.ev rfl) hA173 (⟨by omega, by omega⟩)) ?_
     intro _ H183; clear H171
     refine V H183 (op_loadc gwagg93 gwsiz93 rfl (H183.ev rfl) rfl (cells0 O161 hc174)) ?_
     intro _ H185; clear H183
     refine gw_news (O := .cells #[.string ((files.getD i.toNat z93).f0), .slice A178 ((files.getD i.toNat z93).f1.length) c179, J ((files.getD i.toNat z93).f2)] 93 (0, 0)) (n := 1) H185 O161 (want_none rfl) rfl (by decide) (op_bslice (by kernel_rfl) rfl (pt_cons (H185.ev rfl) pt_nil)) ?_
     intro g186 _ w188 H189 O190; clear H185 O161
     have O191 : Own w w188 [Bk g186 [.string ((files.getD i.toNat z93).f0), .slice A178 ((files.getD i.toNat z93).f1.length) c179, J ((files.getD i.toNat z93).f2)] 93, Chunk.prow w P k93 93 w.heap.size S119 (.slice A117 ((out ++ [(⟨f0, fb, fsf⟩ : S93)]).length) c118) (out ++ [(⟨f0, fb, fsf⟩ : S93)]), Bk g14 [.slice none 0 0, J 0, J 0, .bool false] 50, Bk g8 [.string f0, .slice Ab fb.length cb, J fsf] 93, Bk g2 [.slice Af files.length cf, J most, J fuse, .bool down] 50] := O190
     clear O190
     refine gw_pappend1 k93 (cs := [.string ((files.getD i.toNat z93).f0), .slice A178 ((files.getD i.toNat z93).f1.length) c179, J ((files.getD i.toNat z93).f2)]) (p := (⟨(files.getD i.toNat z93).f0, (files.getD i.toNat z93).f1, (files.getD i.toNat z93).f2⟩ : S93)) hP H189 (by exact O191.sel [1, 0, 2, 3, 4] (by decide)) (want_none rfl) rfl (by decide) rfl Try.underlying48 gwinfo93 rfl (by decide) (by decide) (H189.ev rfl) (H189.ev rfl) (k93_mkF _ _ (⟨(files.getD i.toNat z93).f0, (files.getD i.toNat z93).f1, (files.getD i.toNat z93).f2⟩ : S93) hl180 hC181) O191.below.size (by first | omega | (simp; omega)) ?_
     intro A192 c193 S194 _ w196 H197 O198; clear H189 O191
     have O199 : Own w w196 [Chunk.prow w P k93 93 w.heap.size S194 (.slice A192 (((out ++ [(⟨f0, fb, fsf⟩ : S93)]) ++ [(⟨(files.getD i.toNat z93).f0, (files.getD i.toNat z93).f1, (files.getD i.toNat z93).f2⟩ : S93)]).length) c193) ((out ++ [(⟨f0, fb, fsf⟩ : S93)]) ++ [(⟨(files.getD i.toNat z93).f0, (files.getD i.toNat z93).f1, (files.getD i.toNat z93).f2⟩ : S93)]), Bk g14 [.slice none 0 0, J 0, J 0, .bool false] 50, Bk g8 [.string f0, .slice Ab fb.length cb, J fsf] 93, Bk g2 [.slice Af files.length cf, J most, J fuse, .bool down] 50] := O198
     clear O198
     refine V H197 (op_assign rfl (H197.ev rfl)) ?_
     intro _ H201; clear H197
     refine wpList_nil ?_
     refine gw_blk ?_
     refine gw_nx (hK58 _ _ ?_)
     refine wp_region_lit ?_
     refine V H201 (op_move rfl (H201.ev rfl)) ?_
     intro _ H203; clear H201
     refine V H203 (op_add rfl (H203.ev rfl) (ev_c _ _) (by omega)) ?_
     intro _ H205; clear H203
     refine V H205 (op_assign rfl (H205.ev rfl)) ?_
     intro _ H207; clear H205
     refine wpList_nil ?_
     refine gw_nx ⟨_, ?_, i + 1, ((out ++ [(⟨f0, fb, fsf⟩ : S93)]) ++ [(⟨(files.getD i.toNat z93).f0, (files.getD i.toNat z93).f1, (files.getD i.toNat z93).f2⟩ : S93)]), A192, c193, _, true, (H207.pick (t := 7) rfl (H207.pick (t := 5) rfl (H207.pick (t := 6) rfl (H207.pick (t := 2) rfl (H207.pick (t := 3) rfl (H207.pick (t := 4) rfl H207.nil)))))), O199.sel [0, 1, 2, 3] (by decide), ?_, ?_, ?_, rfl⟩
     ·
      rw [hm43]; omega
     ·
      omega
     ·
      rw [← hW, withL_at z93 (show i.toNat < files.length by omega), show (i + 1).toNat = i.toNat + 1 by omega]; unfold geR neR; generalize files.getD i.toNat z93 = x_ at h28 h41 ⊢; first | (obtain ⟨h1_, h2_⟩ := h28; rw [h1_, h2_]; simp [h41]; done) | (rcases h28 with h_ | h_; (· rw [h_]; simp [h41]); (· rw [h_]; simp [h41]))
     ·
      (try simp only [List.length_append, List.length_singleton]); omega
    ·
     have H208 := H159.subst_ (d := 41) (b := false) rfl hb162
     clear H159
     (try simp only [Bool.and_eq_true, Bool.or_eq_true, Bool.and_eq_false_iff, Bool.or_eq_false_iff, Bool.not_and, Bool.not_or, Bool.not_not, decide_eq_true_eq, decide_eq_false_iff_not, Bool.not_eq_true', Bool.not_eq_false', Bool.not_eq_true, Bool.not_eq_false, ne_eq, Decidable.not_not, Int.not_lt, Int.not_le, not_true_eq_false, not_false_eq_true, bne_iff_ne, beq_iff_eq, bne_eq_false_iff_eq, beq_eq_false_iff_ne] at hb162)
     have h41 := hb162
     refine wp_skip ?_
     refine gw_blk ?_
     refine gw_nx (hK58 _ _ ?_)
     refine wp_region_lit ?_
     refine V H208 (op_move rfl (H208.ev rfl)) ?_
     intro _ H210; clear H208
     refine V H210 (op_add rfl (H210.ev rfl) (ev_c _ _) (by omega)) ?_
     intro _ H212; clear H210
     refine V H212 (op_assign rfl (H212.ev rfl)) ?_
     intro _ H214; clear H212
     refine wpList_nil ?_
     refine gw_nx ⟨_, ?_, i + 1, (out ++ [(⟨f0, fb, fsf⟩ : S93)]), A117, c118, _, true, (H214.pick (t := 7) rfl (H214.pick (t := 5) rfl (H214.pick (t := 6) rfl (H214.pick (t := 2) rfl (H214.pick (t := 3) rfl (H214.pick (t := 4) rfl H214.nil)))))), O161.sel [0, 1, 2, 3] (by decide), ?_, ?_, ?_, rfl⟩
     ·
      rw [hm43]; omega
     ·
      omega
     ·
      rw [← hW, withL_at z93 (show i.toNat < files.length by omega), show (i + 1).toNat = i.toNat + 1 by omega]; unfold geR neR; generalize files.getD i.toNat z93 = x_ at h28 h41 ⊢; first | (obtain ⟨h1_, h2_⟩ := h28; rw [h1_, h2_]; simp [h41]; done) | (rcases h28 with h_ | h_; (· rw [h_]; simp [h41]); (· rw [h_]; simp [h41]))
     ·
      (try simp only [List.length_append, List.length_singleton]); omega
   ·
    have H215 := H101.subst_ (d := 28) (b := false) rfl hb104
    clear H101
    (try simp only [Bool.and_eq_true, Bool.or_eq_true, Bool.and_eq_false_iff, Bool.or_eq_false_iff, Bool.not_and, Bool.not_or, Bool.not_not, decide_eq_true_eq, decide_eq_false_iff_not, Bool.not_eq_true', Bool.not_eq_false', Bool.not_eq_true, Bool.not_eq_false, ne_eq, Decidable.not_not, Int.not_lt, Int.not_le, not_true_eq_false, not_false_eq_true, bne_iff_ne, beq_iff_eq, bne_eq_false_iff_eq, beq_eq_false_iff_ne] at hb104)
    have h28 := hb104
    refine wp_skip ?_
    refine gw_nx (hK59 _ _ ?_)
    refine gw_seq fun K216 hK216 => ?_
    refine gw_drawB O103 (by kernel_rfl) (by kernel_rfl) fun w217 O218 => ?_
    clear O103
    refine gq_ev H215 (want_none rfl) rfl (by decide) (fun wq hq => have HO := O218.after hq; (op_field (gwfld50_0 _ _) rfl (H215.ev rfl))) ?_
    intro _ H220; clear H215
    refine gq_ev H220 (want_none rfl) rfl (by decide) (fun wq hq => have HO := O218.after hq; (op_load1 gwagg48 rfl (H220.ev rfl) (blk_at (HO.get 3 rfl) rfl))) ?_
    intro _ H222; clear H220
    refine gq_ev H222 (want_none rfl) rfl (by decide) (fun wq hq => have HO := O218.after hq; (op_move rfl (H222.ev rfl))) ?_
    intro _ H224; clear H222
    obtain ⟨ad225, cs228, hA226, hl229, hK230, hc227, _⟩ := Kd.F_get hF z93 i (by omega) (by omega)
    obtain ⟨A231, c232, rfl, hl233, hC234⟩ := k93_openF hK230
    clear hl229
    refine gq_ev H224 (want_none rfl) rfl (by decide) (fun wq hq => have HO := O218.after hq; (op_index Try.underlying48 gwsiz93 rfl (H224.ev rfl) (H224.ev rfl) hA226 (⟨by omega, by omega⟩))) ?_
    intro _ H236; clear H224
    refine gq_ev H236 (want_none rfl) rfl (by decide) (fun wq hq => have HO := O218.after hq; (op_field (gwflda93_0 _) rfl (H236.ev rfl))) ?_
    intro _ H238; clear H236
    refine gq_ev H238 (want_none rfl) rfl (by decide) (fun wq hq => have HO := O218.after hq; (op_load1 gwagg9 rfl (H238.ev rfl) ((cells0 HO hc227 0 _ rfl)))) ?_
    intro _ H240; clear H238
    refine gq_ev H240 (want_none rfl) rfl (by decide) (fun wq hq => have HO := O218.after hq; (op_field (gwfld93_0 _ _) rfl (H240.ev rfl))) ?_
    intro _ H242; clear H240
    refine gq_ev H242 (want_none rfl) rfl (by decide) (fun wq hq => have HO := O218.after hq; (op_load1 gwagg9 rfl (H242.ev rfl) (blk_at (HO.get 2 rfl) rfl))) ?_
    intro _ H244; clear H242
    refine gq_ev H244 (want_none rfl) rfl (by decide) (fun wq hq => have HO := O218.after hq; (op_nes rfl (H244.ev rfl) (H244.ev rfl))) ?_
    intro _ H246; clear H244
    refine wpQuiet_nil ?_
    intro w247 hq
    have O248 := O218.after hq
    clear O218 hq
    refine gw_nx (hK216 _ _ ?_)
    refine gw_cond H246 rfl (fun hb249 => ?_) (fun hb249 => ?_)
    ·
     have H250 := H246.subst_ (d := 41) (b := true) rfl hb249
     clear H246
     (try simp only [Bool.and_eq_true, Bool.or_eq_true, Bool.and_eq_false_iff, Bool.or_eq_false_iff, Bool.not_and, Bool.not_or, Bool.not_not, decide_eq_true_eq, decide_eq_false_iff_not, Bool.not_eq_true', Bool.not_eq_false', Bool.not_eq_true, Bool.not_eq_false, ne_eq, Decidable.not_not, Int.not_lt, Int.not_le, not_true_eq_false, not_false_eq_true, bne_iff_ne, beq_iff_eq, bne_eq_false_iff_eq, beq_eq_false_iff_ne] at hb249)
     have h41 := hb249
     refine wp_region_lit ?_
     refine V H250 (op_move rfl (H250.ev rfl)) ?_
     intro _ H252; clear H250
     refine V H252 (op_field (gwfld50_0 _ _) rfl (H252.ev rfl)) ?_
     intro _ H254; clear H252
     refine V H254 (op_load1 gwagg48 rfl (H254.ev rfl) (blk_at (O248.get 3 rfl) rfl)) ?_
     intro _ H256; clear H254
     refine V H256 (op_move rfl (H256.ev rfl)) ?_
     intro _ H258; clear H256
     obtain ⟨ad259, cs262, hA260, hl263, hK264, hc261, _⟩ := Kd.F_get hF z93 i (by omega) (by omega)
     obtain ⟨A265, c266, rfl, hl267, hC268⟩ := k93_openF hK264
     clear hl263
     refine V H258 (op_index Try.underlying48 gwsiz93 rfl (H258.ev rfl) (H258.ev rfl) hA260 (⟨by omega, by omega⟩)) ?_
     intro _ H270; clear H258
     refine V H270 (op_loadc gwagg93 gwsiz93 rfl (H270.ev rfl) rfl (cells0 O248 hc261)) ?_
     intro _ H272; clear H270
     refine gw_news (O := .cells #[.string ((files.getD i.toNat z93).f0), .slice A265 ((files.getD i.toNat z93).f1.length) c266, J ((files.getD i.toNat z93).f2)] 93 (0, 0)) (n := 1) H272 O248 (want_none rfl) rfl (by decide) (op_bslice (by kernel_rfl) rfl (pt_cons (H272.ev rfl) pt_nil)) ?_
     intro g273 _ w275 H276 O277; clear H272 O248
     have O278 : Own w w275 [Bk g273 [.string ((files.getD i.toNat z93).f0), .slice A265 ((files.getD i.toNat z93).f1.length) c266, J ((files.getD i.toNat z93).f2)] 93, Chunk.prow w P k93 93 w.heap.size So (.slice Ao out.length co) out, Bk g14 [.slice none 0 0, J 0, J 0, .bool false] 50, Bk g8 [.string f0, .slice Ab fb.length cb, J fsf] 93, Bk g2 [.slice Af files.length cf, J most, J fuse, .bool down] 50] := O277
     clear O277
     refine gw_pappend1 k93 (cs := [.string ((files.getD i.toNat z93).f0), .slice A265 ((files.getD i.toNat z93).f1.length) c266, J ((files.getD i.toNat z93).f2)]) (p := (⟨(files.getD i.toNat z93).f0, (files.getD i.toNat z93).f1, (files.getD i.toNat z93).f2⟩ : S93)) hP H276 (by exact O278.sel [1, 0, 2, 3, 4] (by decide)) (want_none rfl) rfl (by decide) rfl Try.underlying48 gwinfo93 rfl (by decide) (by decide) (H276.ev rfl) (H276.ev rfl) (k93_mkF _ _ (⟨(files.getD i.toNat z93).f0, (files.getD i.toNat z93).f1, (files.getD i.toNat z93).f2⟩ : S93) hl267 hC268) O278.below.size (by first | omega | (simp; omega)) ?_
     intro A279 c280 S281 _ w283 H284 O285; clear H276 O278
     have O286 : Own w w283 [Chunk.prow w P k93 93 w.heap.size S281 (.slice A279 ((out ++ [(⟨(files.getD i.toNat z93).f0, (files.getD i.toNat z93).f1, (files.getD i.toNat z93).f2⟩ : S93)]).length) c280) (out ++ [(⟨(files.getD i.toNat z93).f0, (files.getD i.toNat z93).f1, (files.getD i.toNat z93).f2⟩ : S93)]), Bk g14 [.slice none 0 0, J 0, J 0, .bool false] 50, Bk g8 [.string f0, .slice Ab fb.length cb, J fsf] 93, Bk g2 [.slice Af files.length cf, J most, J fuse, .bool down] 50] := O285
     clear O285
     refine V H284 (op_assign rfl (H284.ev rfl)) ?_
     intro _ H288; clear H284
     refine wpList_nil ?_
     refine gw_blk ?_
     refine gw_nx (hK58 _ _ ?_)
     refine wp_region_lit ?_
     refine V H288 (op_move rfl (H288.ev rfl)) ?_
     intro _ H290; clear H288
     refine V H290 (op_add rfl (H290.ev rfl) (ev_c _ _) (by omega)) ?_
     intro _ H292; clear H290
     refine V H292 (op_assign rfl (H292.ev rfl)) ?_
     intro _ H294; clear H292
     refine wpList_nil ?_
     refine gw_nx ⟨_, ?_, i + 1, (out ++ [(⟨(files.getD i.toNat z93).f0, (files.getD i.toNat z93).f1, (files.getD i.toNat z93).f2⟩ : S93)]), A279, c280, _, dn, (H294.pick (t := 7) rfl (H294.pick (t := 5) rfl (H294.pick (t := 6) rfl (H294.pick (t := 2) rfl (H294.pick (t := 3) rfl (H294.pick (t := 4) rfl H294.nil)))))), O286.sel [0, 1, 2, 3] (by decide), ?_, ?_, ?_, rfl⟩
     ·
      rw [hm43]; omega
     ·
      omega
     ·
      rw [← hW, withL_at z93 (show i.toNat < files.length by omega), show (i + 1).toNat = i.toNat + 1 by omega]; unfold geR neR; generalize files.getD i.toNat z93 = x_ at h28 h41 ⊢; first | (obtain ⟨h1_, h2_⟩ := h28; rw [h1_, h2_]; simp [h41]; done) | (rcases h28 with h_ | h_; (· rw [h_]; simp [h41]); (· rw [h_]; simp [h41]))
     ·
      (try simp only [List.length_append, List.length_singleton]); omega
    ·
     have H295 := H246.subst_ (d := 41) (b := false) rfl hb249
     clear H246
     (try simp only [Bool.and_eq_true, Bool.or_eq_true, Bool.and_eq_false_iff, Bool.or_eq_false_iff, Bool.not_and, Bool.not_or, Bool.not_not, decide_eq_true_eq, decide_eq_false_iff_not, Bool.not_eq_true', Bool.not_eq_false', Bool.not_eq_true, Bool.not_eq_false, ne_eq, Decidable.not_not, Int.not_lt, Int.not_le, not_true_eq_false, not_false_eq_true, bne_iff_ne, beq_iff_eq, bne_eq_false_iff_eq, beq_eq_false_iff_ne] at hb249)
     have h41 := hb249
     refine wp_skip ?_
     refine gw_blk ?_
     refine gw_nx (hK58 _ _ ?_)
     refine wp_region_lit ?_
     refine V H295 (op_move rfl (H295.ev rfl)) ?_
     intro _ H297; clear H295
     refine V H297 (op_add rfl (H297.ev rfl) (ev_c _ _) (by omega)) ?_
     intro _ H299; clear H297
     refine V H299 (op_assign rfl (H299.ev rfl)) ?_
     intro _ H301; clear H299
     refine wpList_nil ?_
     refine gw_nx ⟨_, ?_, i + 1, out, Ao, co, _, dn, (H301.pick (t := 7) rfl (H301.pick (t := 5) rfl (H301.pick (t := 6) rfl (H301.pick (t := 2) rfl (H301.pick (t := 3) rfl (H301.pick (t := 4) rfl H301.nil)))))), O248.sel [0, 1, 2, 3] (by decide), ?_, ?_, ?_, rfl⟩
     ·
      rw [hm43]; omega
     ·
      omega
     ·
      rw [← hW, withL_at z93 (show i.toNat < files.length by omega), show (i + 1).toNat = i.toNat + 1 by omega]; unfold geR neR; generalize files.getD i.toNat z93 = x_ at h28 h41 ⊢; first | (obtain ⟨h1_, h2_⟩ := h28; rw [h1_, h2_]; simp [h41]; done) | (rcases h28 with h_ | h_; (· rw [h_]; simp [h41]); (· rw [h_]; simp [h41]))
     ·
      (try simp only [List.length_append, List.length_singleton]); omega
  ·
   have H302 := H55.subst_ (d := 13) (b := false) rfl hb56
   clear H55
   (try simp only [decide_eq_false_iff_not, Int.not_lt] at hb56)
   refine wp_exit ?_
   refine gw_thx ?_
   refine gw_thx ?_
   refine gw_in ?_
   refine gw_nx (hK33 _ _ ?_)
   refine gw_seq fun K303 hK303 => ?_
   refine gw_seq fun K304 hK304 => ?_
   refine wp_region_lit ?_
   refine V H302 (op_move rfl (H302.ev rfl)) ?_
   intro _ H306; clear H302
   refine V H306 (op_not rfl (H306.ev rfl)) ?_
   intro _ H308; clear H306
   refine wpList_nil ?_
   refine gw_nx (hK304 _ _ ?_)
   refine gw_cond H308 rfl (fun hb309 => ?_) (fun hb309 => ?_)
   ·
    have H310 := H308.subst_ (d := 51) (b := true) rfl hb309
    clear H308
    (try simp only [Bool.and_eq_true, Bool.or_eq_true, Bool.and_eq_false_iff, Bool.or_eq_false_iff, Bool.not_and, Bool.not_or, Bool.not_not, decide_eq_true_eq, decide_eq_false_iff_not, Bool.not_eq_true', Bool.not_eq_false', Bool.not_eq_true, Bool.not_eq_false, ne_eq, Decidable.not_not, Int.not_lt, Int.not_le, not_true_eq_false, not_false_eq_true, bne_iff_ne, beq_iff_eq, bne_eq_false_iff_eq, beq_eq_false_iff_ne] at hb309)
    have h51 := hb309
    refine wp_region_lit ?_
    refine V H310 (op_move rfl (H310.ev rfl)) ?_
    intro _ H312; clear H310
    refine V H312 (op_loadn gwagg93 gwsiz93 rfl (H312.ev rfl) (O42.get 2 rfl) rfl rfl) ?_
    intro _ H314; clear H312
    refine gw_news (O := .cells #[.string f0, .slice Ab fb.length cb, J fsf] 93 (0, 0)) (n := 1) H314 O42 (want_none rfl) rfl (by decide) (op_bslice (by kernel_rfl) rfl (pt_cons (H314.ev rfl) pt_nil)) ?_
    intro g315 _ w317 H318 O319; clear H314 O42
    have O320 : Own w w317 [Bk g315 [.string f0, .slice Ab fb.length cb, J fsf] 93, Chunk.prow w P k93 93 w.heap.size So (.slice Ao out.length co) out, Bk g14 [.slice none 0 0, J 0, J 0, .bool false] 50, Bk g8 [.string f0, .slice Ab fb.length cb, J fsf] 93, Bk g2 [.slice Af files.length cf, J most, J fuse, .bool down] 50] := O319
    clear O319
    refine gw_pappend1 k93 (cs := [.string f0, .slice Ab fb.length cb, J fsf]) (p := (⟨f0, fb, fsf⟩ : S93)) hP H318 (by exact O320.sel [1, 0, 2, 3, 4] (by decide)) (want_none rfl) rfl (by decide) rfl Try.underlying48 gwinfo93 rfl (by decide) (by decide) (H318.ev rfl) (H318.ev rfl) (k93_mkF _ _ (⟨f0, fb, fsf⟩ : S93) hcb hB) O320.below.size (by first | omega | (simp; omega)) ?_
    intro A321 c322 S323 _ w325 H326 O327; clear H318 O320
    have O328 : Own w w325 [Chunk.prow w P k93 93 w.heap.size S323 (.slice A321 ((out ++ [(⟨f0, fb, fsf⟩ : S93)]).length) c322) (out ++ [(⟨f0, fb, fsf⟩ : S93)]), Bk g14 [.slice none 0 0, J 0, J 0, .bool false] 50, Bk g8 [.string f0, .slice Ab fb.length cb, J fsf] 93, Bk g2 [.slice Af files.length cf, J most, J fuse, .bool down] 50] := O327
    clear O327
    refine V H326 (op_assign rfl (H326.ev rfl)) ?_
    intro _ H330; clear H326
    refine wpList_nil ?_
    refine gw_nx (hK303 _ _ ?_)
    refine gw_seq fun K331 hK331 => ?_
    refine wp_region_lit ?_
    refine V H330 (op_move rfl (H330.ev rfl)) ?_
    intro _ H333; clear H330
    refine V H333 (op_field (gwfld50_0 _ _) rfl (H333.ev rfl)) ?_
    intro _ H335; clear H333
    refine gw_set 3 H335 O328 rfl (want_none rfl) rfl (op_store1 gwsiz48 rfl (H335.ev rfl) (H335.ev rfl) rfl (blk_at (O328.get 3 rfl) rfl) (blkf (O328.get 3 rfl))) ?_
    intro _ w338 H337 O339; clear H335 O328
    have O340 : Own w w338 [Chunk.prow w P k93 93 w.heap.size S323 (.slice A321 ((out ++ [(⟨f0, fb, fsf⟩ : S93)]).length) c322) (out ++ [(⟨f0, fb, fsf⟩ : S93)]), Bk g14 [.slice none 0 0, J 0, J 0, .bool false] 50, Bk g8 [.string f0, .slice Ab fb.length cb, J fsf] 93, Bk g2 [.slice A321 ((out ++ [(⟨f0, fb, fsf⟩ : S93)]).length) c322, J most, J fuse, .bool down] 50] := O339
    clear O339
    refine wpList_nil ?_
    refine gw_nx (hK331 _ _ ?_)
    refine gw_seq fun K341 hK341 => ?_
    refine wp_region_lit ?_
    refine V H337 (op_loadn gwagg50 gwsiz50 rfl (H337.ev rfl) (O340.get 3 rfl) rfl rfl) ?_
    intro _ H343; clear H337
    refine gw_setn 1 H343 O340 rfl (want_none rfl) rfl (op_storen gwsiz50 rfl (H343.ev rfl) (H343.ev rfl) (O340.get 1 rfl) rfl (by simp) (by simp [Value.oneCell'])) ?_
    intro _ w346 H345 O347; clear H343 O340
    have O348 : Own w w346 [Chunk.prow w P k93 93 w.heap.size S323 (.slice A321 ((out ++ [(⟨f0, fb, fsf⟩ : S93)]).length) c322) (out ++ [(⟨f0, fb, fsf⟩ : S93)]), Bk g14 [.slice A321 ((out ++ [(⟨f0, fb, fsf⟩ : S93)]).length) c322, J most, J fuse, .bool down] 50, Bk g8 [.string f0, .slice Ab fb.length cb, J fsf] 93, Bk g2 [.slice A321 ((out ++ [(⟨f0, fb, fsf⟩ : S93)]).length) c322, J most, J fuse, .bool down] 50] := O347
    clear O347
    refine wpList_nil ?_
    refine gw_nx (hK341 _ _ ?_)
    refine wp_ret ?_
    refine gw_rets1 H345 rfl (rv_celln H345 rfl gwagg50 gwsiz50 (O348.get 1 rfl) rfl) ?_
    have hz_ : files.drop i.toNat = [] := List.drop_eq_nil_of_le (by omega)
    rw [hz_] at hW
    have hr_ : (out ++ [(⟨f0, fb, fsf⟩ : S93)]) = withL (⟨f0, fb, fsf⟩ : S93) files false := by rw [← hW]; unfold withL; simp [h51]
    rw [← hr_]
    exact ⟨_, _, rfl, Kd.N_mono (prow_N O348 hP (O348.get 0 rfl)) (fun k_ hk_ => hk_.elim .inl (fun h_ => .inr (O348.lt 0 rfl h_).1)), O348.below⟩
   ·
    have H349 := H308.subst_ (d := 51) (b := false) rfl hb309
    clear H308
    (try simp only [Bool.and_eq_true, Bool.or_eq_true, Bool.and_eq_false_iff, Bool.or_eq_false_iff, Bool.not_and, Bool.not_or, Bool.not_not, decide_eq_true_eq, decide_eq_false_iff_not, Bool.not_eq_true', Bool.not_eq_false', Bool.not_eq_true, Bool.not_eq_false, ne_eq, Decidable.not_not, Int.not_lt, Int.not_le, not_true_eq_false, not_false_eq_true, bne_iff_ne, beq_iff_eq, bne_eq_false_iff_eq, beq_eq_false_iff_ne] at hb309)
    have h51 := hb309
    refine wp_skip ?_
    refine gw_nx (hK303 _ _ ?_)
    refine gw_seq fun K350 hK350 => ?_
    refine wp_region_lit ?_
    refine V H349 (op_move rfl (H349.ev rfl)) ?_
    intro _ H352; clear H349
    refine V H352 (op_field (gwfld50_0 _ _) rfl (H352.ev rfl)) ?_
    intro _ H354; clear H352
    refine gw_set 3 H354 O42 rfl (want_none rfl) rfl (op_store1 gwsiz48 rfl (H354.ev rfl) (H354.ev rfl) rfl (blk_at (O42.get 3 rfl) rfl) (blkf (O42.get 3 rfl))) ?_
    intro _ w357 H356 O358; clear H354 O42
    have O359 : Own w w357 [Chunk.prow w P k93 93 w.heap.size So (.slice Ao out.length co) out, Bk g14 [.slice none 0 0, J 0, J 0, .bool false] 50, Bk g8 [.string f0, .slice Ab fb.length cb, J fsf] 93, Bk g2 [.slice Ao out.length co, J most, J fuse, .bool down] 50] := O358
    clear O358
    refine wpList_nil ?_
    refine gw_nx (hK350 _ _ ?_)
    refine gw_seq fun K360 hK360 => ?_
    refine wp_region_lit ?_
    refine V H356 (op_loadn gwagg50 gwsiz50 rfl (H356.ev rfl) (O359.get 3 rfl) rfl rfl) ?_
    intro _ H362; clear H356
    refine gw_setn 1 H362 O359 rfl (want_none rfl) rfl (op_storen gwsiz50 rfl (H362.ev rfl) (H362.ev rfl) (O359.get 1 rfl) rfl (by simp) (by simp [Value.oneCell'])) ?_
    intro _ w365 H364 O366; clear H362 O359
    have O367 : Own w w365 [Chunk.prow w P k93 93 w.heap.size So (.slice Ao out.length co) out, Bk g14 [.slice Ao out.length co, J most, J fuse, .bool down] 50, Bk g8 [.string f0, .slice Ab fb.length cb, J fsf] 93, Bk g2 [.slice Ao out.length co, J most, J fuse, .bool down] 50] := O366
    clear O366
    refine wpList_nil ?_
    refine gw_nx (hK360 _ _ ?_)
    refine wp_ret ?_
    refine gw_rets1 H364 rfl (rv_celln H364 rfl gwagg50 gwsiz50 (O367.get 1 rfl) rfl) ?_
    have hz_ : files.drop i.toNat = [] := List.drop_eq_nil_of_le (by omega)
    rw [hz_] at hW
    have hr_ : out = withL (⟨f0, fb, fsf⟩ : S93) files false := by rw [← hW]; unfold withL; simp [h51]
    rw [← hr_]
    exact ⟨_, _, rfl, Kd.N_mono (prow_N O367 hP (O367.get 0 rfl)) (fun k_ hk_ => hk_.elim .inl (fun h_ => .inr (O367.lt 0 rfl h_).1)), O367.below⟩
end GRefW_
export GRefW_ (with_calls)
end Go.Proofs.Ytkdahjnmldeklaa.PA
end
section
namespace Go.Proofs.Ytkdahjnmldeklaa.PA
open Go.RowKit Go.Maps Go.Proofs.YtkdahjnmldeklaaW.PrintWords Go.Proofs.YtkdahjnmldeklaaW.PrintLast Go.Proofs.YtkdahjnmldeklaaW.PrintMore
set_option linter.unusedVariables false
set_option linter.unusedSimpArgs false
def ofS (x : S93) : PF := ⟨x.f0, x.f1, x.f2⟩
theorem less_before : ∀ a b : List UInt8, Op.bytesLess a b = bytesBefore a b
  | [], [] => rfl
  | [], _ :: _ => rfl
  | _ :: _, [] => rfl
  | a :: r, b :: s => by
    have ih := less_before r s
    unfold Op.bytesLess bytesBefore
    rw [ih]
theorem geR_before (x f : S93) : geR x f = !(litS x.f0).before (litS f.f0) := by
  unfold geR
  rw [less_before, ByteArray.toList_eq, ByteArray.toList_eq]
  rfl
theorem neR_ne (x f : S93) : neR x f = !decide (x.f0 = f.f0) := by
  unfold neR
  by_cases h : x.f0 = f.f0
  · simp [h]
  · have : ¬ x.f0.toList = f.f0.toList := fun e => h (bytes_ext e)
    simp [h, this]
def delR (nm : ByteArray) (files : List S93) : List S93 := files.filter fun x => !(x.f0.toList == nm.toList)
theorem delR_of (nm : ByteArray) (files : List S93) : (delR nm files).map ofS = delF nm (files.map ofS) := by
  unfold delR delF
  rw [List.filter_map]
  congr 1
  refine List.filter_congr fun x _ => ?_
  show _ = !decide (x.f0 = nm)
  by_cases h : x.f0 = nm
  · simp [h]
  · have : ¬ x.f0.toList = nm.toList := fun e => h (bytes_ext e)
    simp [h, this]
theorem withL_done (f : S93) : ∀ files : List S93, (withL f files true).map ofS = delF f.f0 (files.map ofS)
  | [] => rfl
  | x :: r => by
    have ih := withL_done f r
    unfold withL
    rw [neR_ne]
    show ((if (!true && geR x f) = true then [f] else []) ++ ((if (!decide (x.f0 = f.f0)) = true then [x] else []) ++ withL f r true)).map ofS = delF f.f0 (ofS x :: r.map ofS)
    unfold delF at ih ⊢
    rw [List.filter_cons, ← ih]
    show _ = if (!decide (x.f0 = f.f0)) = true then _ else _
    by_cases h : x.f0 = f.f0 <;> simp [h]
theorem withL_ins (f : S93) : ∀ files : List S93, risF (files.map ofS) → (withL f files false).map ofS = insF (ofS f) (delF f.f0 (files.map ofS))
  | [], _ => rfl
  | x :: r, hr => by
    obtain ⟨h1, h2⟩ := List.pairwise_cons.1 hr
    have ih := withL_ins f r h2
    have hd := withL_done f r
    unfold withL
    rw [neR_ne, geR_before]
    have hcons : delF f.f0 ((x :: r).map ofS) = if (!decide (x.f0 = f.f0)) = true then ofS x :: delF f.f0 (r.map ofS) else delF f.f0 (r.map ofS) := by
      unfold delF
      rw [List.map_cons, List.filter_cons]
      rfl
    rw [hcons]
    cases hb : (litS x.f0).before (litS f.f0)
    · -- x isn't before f
      show ((if (!false && !false) = true then [f] else []) ++ ((if (!decide (x.f0 = f.f0)) = true then [x] else []) ++ withL f r (false || !false))).map ofS = _
      have e1 : withL f r (false || !false) = withL f r true := rfl
      rw [e1]
      by_cases h : x.f0 = f.f0
      · simp only [h, decide_true, Bool.not_true, Bool.false_eq_true, if_false, Bool.not_false, Bool.and_self, if_true, List.nil_append, List.map_append, List.map_cons, List.map_nil, hd]
        have hn : ∀ g ∈ r.map ofS, g.nm ≠ f.f0 := fun g hg => by
          have := bef_ne (h1 g hg)
          rw [← h]
          exact fun e => this e.symm
        rw [del_none hn]
        show [ofS f] ++ r.map ofS = insF (ofS f) (r.map ofS)
        cases hr2 : r.map ofS with
        | nil => rfl
        | cons y q =>
          have := h1 y (by rw [hr2]; simp)
          have hfy : (litS (ofS f).nm).before (litS y.nm) = true := by show (litS f.f0).before (litS y.nm) = true; rw [← h]; exact this
          unfold insF
          rw [if_pos hfy]
          rfl
      · have hfx : (litS f.f0).before (litS x.f0) = true := by
          rcases bef_total (a := x.f0) (b := f.f0) h with h3 | h3
          · rw [hb] at h3; cases h3
          · exact h3
        simp only [h, decide_false, Bool.not_false, if_true, Bool.and_self, List.map_append, List.map_cons, List.map_nil, hd]
        show [ofS f] ++ ([ofS x] ++ delF f.f0 (r.map ofS)) = insF (ofS f) (ofS x :: delF f.f0 (r.map ofS))
        unfold insF
        rw [if_pos (show (litS (ofS f).nm).before (litS (ofS x).nm) = true from hfx)]
        rfl
    · have h : ¬ x.f0 = f.f0 := bef_ne hb
      have hfx : ¬ (litS (ofS f).nm).before (litS (ofS x).nm) = true := fun h3 => by
        have := Go.WideShapes.before_trans hb (show (litS f.f0).before (litS x.f0) = true from h3)
        rw [Go.WideShapes.before_irrefl] at this
        cases this
      show ((if (!false && !true) = true then [f] else []) ++ ((if (!decide (x.f0 = f.f0)) = true then [x] else []) ++ withL f r (false || !true))).map ofS = _
      have e1 : withL f r (false || !true) = withL f r false := rfl
      rw [e1]
      simp only [h, decide_false, Bool.not_false, if_true, Bool.not_true, Bool.and_false, Bool.false_eq_true, if_false, List.nil_append, List.map_append, List.map_cons, List.map_nil, ih]
      show [ofS x] ++ insF (ofS f) (delF f.f0 (r.map ofS)) = insF (ofS f) (ofS x :: delF f.f0 (r.map ofS))
      rw [insF, if_neg hfx]
      rfl
theorem upd_ins {nm : ByteArray} {h : PF → PF} {f : PF} : ∀ {fs : List PF}, risF fs → getF nm fs = some f → (h f).nm = nm → insF (h f) (delF nm fs) = updF nm h fs
  | [], _, hg, _ => by simp [getF] at hg
  | x :: r, hr, hg, hn => by
    obtain ⟨h1, h2⟩ := List.pairwise_cons.1 hr
    by_cases hx : x.nm = nm
    · have hf : f = x := by
        unfold getF at hg
        rw [List.find?_cons_of_pos (by simpa using hx)] at hg
        exact (Option.some.inj hg).symm
      subst hf
      have hrn : ∀ g ∈ r, g.nm ≠ nm := fun g hg => by rw [← hx]; exact fun e => bef_ne (h1 g hg) e.symm
      have e1 : delF nm (f :: r) = r := by
        have := del_split (pre := []) (post := r) hx (by simpa using hrn)
        simpa using this
      have e2 : updF nm h (f :: r) = h f :: r := by
        have := upd_split (h := h) (pre := []) (post := r) hx (by simpa using hrn)
        simpa using this
      rw [e1, e2]
      cases r with
      | nil => rfl
      | cons y q =>
        have := h1 y (by simp)
        unfold insF
        rw [if_pos (by rw [hn, ← hx]; exact this)]
    · have hg2 : getF nm r = some f := by
        unfold getF at hg ⊢
        rwa [List.find?_cons_of_neg (by simpa using hx)] at hg
      have ih := upd_ins h2 hg2 hn
      have hfm := (getF_mem hg2)
      have hb : (litS x.nm).before (litS nm) = true := by rw [← hfm.2]; exact h1 f hfm.1
      have hnb : ¬ (litS (h f).nm).before (litS x.nm) = true := fun h3 => by
        rw [hn] at h3
        have := Go.WideShapes.before_trans hb h3
        rw [Go.WideShapes.before_irrefl] at this
        cases this
      have e1 : delF nm (x :: r) = x :: delF nm r := by unfold delF; rw [List.filter_cons, if_pos (by simp [hx])]
      have e2 : updF nm h (x :: r) = x :: updF nm h r := by unfold updF; rw [List.map_cons, if_neg hx]
      rw [e1, e2, insF, if_neg hnb, ih]
theorem del_comm (a b : ByteArray) (fs : List PF) : delF a (delF b fs) = delF b (delF a fs) := by
  unfold delF
  rw [List.filter_filter, List.filter_filter]
  refine List.filter_congr fun x _ => ?_
  exact Bool.and_comm _ _
theorem del_twice (a : ByteArray) (fs : List PF) : delF a (delF a fs) = delF a fs := del_none fun g hg => (del_mem g hg).2
theorem drop_fs2 (nm : ByteArray) (d : PD) : (dropD nm d).fs = delF nm d.fs := by
  cases hg : getF nm d.fs with
  | none => rw [drop_none hg, del_none (get_none hg)]
  | some f => rw [drop_some hg]
theorem ren_ins {nm dest : ByteArray} {f : PF} {d : PD} (hr : risF d.fs) (hg : getF nm d.fs = some f) : insF { f with nm := dest } (delF dest (delF nm d.fs)) = (renK nm dest f d).fs := by
  unfold renK
  by_cases e : nm = dest
  · subst e
    rw [if_pos rfl, del_twice]
    have hf := (getF_mem hg).2
    have e1 : ({ f with nm := nm } : PF) = f := by rw [← hf]
    rw [e1]
    have := upd_ins (h := fun f => f) hr hg hf
    rw [this]
    unfold updF
    simp
  · rw [if_neg e]
    show _ = insF { f with nm := dest } (delF dest (delF nm (dropD dest d).fs))
    rw [drop_fs2, del_comm nm dest, del_twice]
def findR (nm : ByteArray) : List S93 → Int → Int
  | [], _ => -1
  | x :: r, i => if (x.f0.toList == nm.toList) = true then i else findR nm r (i + 1)
theorem findR_at {nm : ByteArray} {fs : List S93} {i : Nat} (z : S93) (hi : i < fs.length) (k : Int) : findR nm (fs.drop i) k = if ((fs.getD i z).f0.toList == nm.toList) = true then k else findR nm (fs.drop (i + 1)) (k + 1) := by
  have e : fs.getD i z = fs[i] := by simp [List.getD_eq_getElem?_getD, List.getElem?_eq_getElem hi]
  rw [List.drop_eq_getElem_cons hi, e]
  rfl
theorem find_cases (nm : ByteArray) (z : S93) : ∀ (fs : List S93) (k : Int), (findR nm fs k = -1 ∧ getF nm (fs.map ofS) = none) ∨ ∃ i : Nat, findR nm fs k = k + i ∧ i < fs.length ∧ getF nm (fs.map ofS) = some (ofS (fs.getD i z))
  | [], _ => .inl ⟨rfl, rfl⟩
  | x :: r, k => by
    unfold findR
    by_cases h : x.f0 = nm
    · refine .inr ⟨0, ?_, by simp, ?_⟩
      · rw [if_pos (by rw [h]; simp)]; simp
      · unfold getF
        rw [List.map_cons, List.find?_cons_of_pos (p := fun f : PF => decide (f.nm = nm)) (a := ofS x) (decide_eq_true h)]
        rfl
    · have h2 : ¬ x.f0.toList = nm.toList := fun e => h (bytes_ext e)
      rw [if_neg (by simpa using h2)]
      have hg : getF nm ((x :: r).map ofS) = getF nm (r.map ofS) := by
        unfold getF
        rw [List.map_cons, List.find?_cons_of_neg (p := fun f : PF => decide (f.nm = nm)) (a := ofS x) (by show ¬ decide (x.f0 = nm) = true; simpa using h)]
      rw [hg]
      rcases find_cases nm z r (k + 1) with h3 | ⟨i, h3, h4, h5⟩
      · exact .inl h3
      · exact .inr ⟨i + 1, by rw [h3]; push_cast; omega, by simp; omega, by rw [h5]; simp⟩
theorem find3 (nm : ByteArray) (z : S93) (fs : List S93) : (findR nm fs 0 = -1 ∧ getF nm (fs.map ofS) = none) ∨ ∃ i : Int, findR nm fs 0 = i ∧ (0 ≤ i ∧ i < fs.length) ∧ getF nm (fs.map ofS) = some (ofS (fs.getD i.toNat z)) := by
  rcases find_cases nm z fs 0 with h | ⟨i, h1, h2, h3⟩
  · exact .inl h
  · exact .inr ⟨i, by rw [h1]; omega, ⟨by omega, by omega⟩, by rw [h3]; simp⟩
theorem used_of (fs : List S93) : totF (fs.map ofS) = (fs.map fun x => x.f1.length).sum := by unfold totF; rw [List.map_map]; rfl
section
variable {w0 w w' : World} {P : Nat → Prop} {L : List Chunk} {C : Chunk}
theorem with_own (Af : Option Addr) (cf : Nat) (files : List S93) (most fuse : Int) (down : Bool) (f0 : ByteArray) (Ab : Option Addr) (cb : Nat) (fb : List Int) (fsf : Int) (hP : ∀ k, P k → k < w0.heap.size) (i : Nat) (hi : L[i]? = some C) (HO : Own w0 w L)
    (hF : Kd.F k93 w (fun k => P k ∨ C.S k) Af files.length files) (hcf : files.length ≤ cf) (hB : Kd.F (Kd.int .u8) w (fun k => P k ∨ C.S k) Ab fb.length fb) (hcb : fb.length ≤ cb) (hlf : files.length ≤ 1000000) :
    Calls Try.prog 56 #[.agg #[.slice Af files.length cf, .int .i64 most, .int .i64 fuse, .bool down], .agg #[.string f0, .slice Ab fb.length cb, .int .i64 fsf]] w fun e w' => ∃ A' c' S', e = .returned (.agg #[.slice A' (withL ⟨f0, fb, fsf⟩ files false).length c', .int .i64 most, .int .i64 fuse, .bool down]) ∧
      Out w w' C.S [Chunk.prow w0 P k93 93 w0.heap.size S' (.slice A' (withL ⟨f0, fb, fsf⟩ files false).length c') (withL ⟨f0, fb, fsf⟩ files false)] := by
  have hCw : ∀ k, C.S k → k < w.heap.size := fun k hk => (HO.lt i hi hk).2
  have hPw : ∀ k, P k → k < w.heap.size := fun k hk => Nat.lt_of_lt_of_le (hP k hk) HO.below.size
  refine (with_calls (fun k => P k ∨ C.S k) Af cf files most fuse down f0 Ab cb fb fsf w (fun k hk => hk.elim (hPw k) (hCw k)) hF hcf hB hcb hlf).mono ?_
  rintro e w' ⟨A', c', rfl, hN, hb⟩
  have hN2 := Kd.N_bound hN
  have hown : ∀ k, (Value.slice A' (withL ⟨f0, fb, fsf⟩ files false).length c').ownBlock = some k → C.S k ∨ w.heap.size ≤ k ∧ k < w'.heap.size := fun k hk => .inr ⟨Kd.N_base hN k hk, Kd.N_lt hN k hk⟩
  have hPk : ∀ k, P k → w'.heap[k]? = w0.heap[k]? := fun k hk => (hb.block k (hPw k hk)).trans (HO.below.block k (hP k hk))
  refine ⟨A', c', (fun k => C.S k ∨ w.heap.size ≤ k ∧ k < w'.heap.size), rfl, Out.one (Out.of_below hb _) (c := Chunk.prow w0 P k93 93 w0.heap.size (fun k => C.S k ∨ w.heap.size ≤ k ∧ k < w'.heap.size) _ _) (prow_of hown ?_ hPk) ?_⟩
  · refine Kd.N_lower (Kd.N_mono hN2 fun k hk => ?_) HO.below.size
    rcases hk.1 with (h | h) | h
    · exact .inl h
    · exact .inr (.inl h)
    · exact .inr (.inr ⟨h, hk.2⟩)
  · intro k hk
    rcases hk with hk | hk
    · exact ⟨.inl hk, Nat.lt_of_lt_of_le (hCw k hk) hb.size⟩
    · exact ⟨.inr hk.1, hk.2⟩
theorem F_up {α : Type} {d : Kd α} {A : Option Addr} {n : Nat} {xs : List α} (HO : Own w0 w L) (hP : ∀ k, P k → k < w0.heap.size) (h : Kd.F d w0 P A n xs) (C : Chunk) : Kd.F d w (fun k => P k ∨ C.S k) A n xs :=
  Kd.F_mono (Kd.F_step h fun k hk _ => HO.below.block k (hP k hk)) fun k hk => .inl hk
end
def DoPost (P : Nat → Prop) (w w' : World) (e : Ending) (r : PD × Int) : Prop := ∃ files' A' c', files'.map ofS = r.1.fs ∧ e = .returned (.tuple #[.agg #[.slice A' files'.length c', .int .i64 r.1.most, .int .i64 r.1.fuse, .bool r.1.down], .int .i64 r.2]) ∧
  Kd.V k93 93 w' w.heap.size (fun k => P k ∨ w.heap.size ≤ k) (.slice A' files'.length c') files' ∧ Below w.heap.size w w' ∧ ∀ ad, A' = some ad → (P ad.block ∨ w.heap.size ≤ ad.block) ∧ ad.block < w'.heap.size
theorem do_same {P : Nat → Prop} {w w' : World} {r : PD × Int} {d2 : PD} {c : Int} {Af : Option Addr} {cf : Nat} {files : List S93} (hP : ∀ k, P k → k < w.heap.size) (hr : r = (d2, c)) (hd : files.map ofS = d2.fs) (hF : Kd.F k93 w P Af files.length files) (hcf : files.length ≤ cf) (hA : ∀ ad, Af = some ad → P ad.block) (hb : Below w.heap.size w w') :
    DoPost P w w' (.returned (.tuple #[.agg #[.slice Af files.length cf, .int .i64 d2.most, .int .i64 d2.fuse, .bool d2.down], .int .i64 c])) r := by
  rw [hr]
  exact ⟨files, Af, cf, hd, rfl, Kd.V_mk hcf (Kd.F_mono (Kd.F_step hF fun k hk _ => hb.block k (hP k hk)) fun k hk => .inl hk), hb, fun ad e => ⟨.inl (hA ad e), Nat.lt_of_lt_of_le (hP _ (hA ad e)) hb.size⟩⟩
theorem do_new {P S : Nat → Prop} {w w' : World} {L : List Chunk} {r : PD × Int} {d2 : PD} {c : Int} {A : Option Addr} {cf : Nat} {files : List S93} (hP : ∀ k, P k → k < w.heap.size) (hr : r = (d2, c)) (hd : files.map ofS = d2.fs) (HO : Own w w' L) (i : Nat) (hi : L[i]? = some (Chunk.prow w P k93 93 w.heap.size S (.slice A files.length cf) files)) :
    DoPost P w w' (.returned (.tuple #[.agg #[.slice A files.length cf, .int .i64 d2.most, .int .i64 d2.fuse, .bool d2.down], .int .i64 c])) r := by
  rw [hr]
  have hN := prow_N HO hP (HO.get i hi)
  exact ⟨files, A, cf, hd, rfl, Kd.V_mono (Kd.N_V hN) (fun k hk => hk.elim .inl fun h => .inr (HO.lt i hi h).1), HO.below, fun ad e => by
    have h1 := (HO.get i hi).1 ad.block (by rw [e]; rfl)
    exact ⟨.inr (HO.lt i hi h1).1, (HO.lt i hi h1).2⟩⟩
end Go.Proofs.Ytkdahjnmldeklaa.PA
end
section
namespace Go.Proofs.Ytkdahjnmldeklaa.PA
open Go.RowKit Go.Maps Go.Proofs.YtkdahjnmldeklaaW.PrintWords Go.Proofs.YtkdahjnmldeklaaW.PrintLast Go.Proofs.YtkdahjnmldeklaaW.PrintMore
set_option linter.unusedVariables false
set_option linter.unusedSimpArgs false
theorem sum_take (l : List Nat) (i : Nat) (hi : i < l.length) : (l.take (i + 1)).sum = (l.take i).sum + l.getD i 0 := by
  have e : l.getD i 0 = l[i] := by simp [List.getD_eq_getElem?_getD, List.getElem?_eq_getElem hi]
  rw [e, List.take_succ_eq_append_getElem hi, List.sum_append]
  simp
theorem sum_le (l : List Nat) (i : Nat) : (l.take i).sum ≤ l.sum := by
  have : l.sum = (l.take i).sum + (l.drop i).sum := by rw [← List.sum_append, List.take_append_drop]
  omega
theorem usum {files : List S93} {i : Nat} (z : S93) (hi : i < files.length) : ((files.map fun x => x.f1.length).take (i + 1)).sum = ((files.map fun x => x.f1.length).take i).sum + (files.getD i z).f1.length := by
  rw [sum_take _ _ (by rw [List.length_map]; exact hi)]
  simp [List.getD_eq_getElem?_getD, List.getElem?_eq_getElem hi]
theorem named_r (s : ByteArray) : (decide ((0 : Int) < (s.size : Int)) && decide ((s.size : Int) ≤ 40)) = namedB s := by
  unfold namedB
  congr 1 <;> (rw [decide_eq_decide]; omega)
theorem delR_at {nm : ByteArray} {fs : List S93} {i : Nat} (z : S93) (hi : i < fs.length) : delR nm (fs.drop i) = (if (!((fs.getD i z).f0.toList == nm.toList)) = true then [fs.getD i z] else []) ++ delR nm (fs.drop (i + 1)) := by
  have e : fs.getD i z = fs[i] := by simp [List.getD_eq_getElem?_getD, List.getElem?_eq_getElem hi]
  rw [List.drop_eq_getElem_cons hi, e]
  unfold delR
  rw [List.filter_cons]
  split <;> simp
end Go.Proofs.Ytkdahjnmldeklaa.PA
end
section
namespace Go.Proofs.Ytkdahjnmldeklaa.PA
open Go.RowKit Go.Proofs.YtkdahjnmldeklaaW.PrintWords Go.Proofs.YtkdahjnmldeklaaW.PrintLast Go.Proofs.YtkdahjnmldeklaaW.PrintMore
set_option linter.unusedVariables false
set_option linter.unusedSimpArgs false
namespace GRef0_
theorem gwagg28 : ∀ w, (isAgg 28).run Try.prog w = .ok false w := fun _ => by kernel_rfl
theorem gwagg48 : ∀ w, (isAgg 48).run Try.prog w = .ok false w := fun _ => by kernel_rfl
theorem gwagg50 : ∀ w, (isAgg 50).run Try.prog w = .ok true w := fun _ => by kernel_rfl
theorem gwagg9 : ∀ w, (isAgg 9).run Try.prog w = .ok false w := fun _ => by kernel_rfl
theorem gwagg93 : ∀ w, (isAgg 93).run Try.prog w = .ok true w := fun _ => by kernel_rfl
theorem gwfld50_0 (g off : Nat) : ∀ w, (Instr.fieldAt 50 (.pointer (some ⟨g, off, none⟩)) 0).run Try.prog w = .ok (.pointer (some ⟨g, off + 0, none⟩)) w := fun _ => by kernel_rfl
theorem gwflda93_0 (ad : Addr) : ∀ w, (Instr.fieldAt 93 (.pointer (some ad)) 0).run Try.prog w = .ok (.pointer (some (ad.add 0))) w := fun _ => by kernel_rfl
theorem gwflda93_1 (ad : Addr) : ∀ w, (Instr.fieldAt 93 (.pointer (some ad)) 1).run Try.prog w = .ok (.pointer (some (ad.add 1))) w := fun _ => by kernel_rfl
theorem gwinfo93 : (Try.prog.info? 93).map (fun i => (i.zero, i.size, i.bytes)) = some (some (.agg #[.string (⟨#[]⟩ : ByteArray), .slice none 0 0, .int .i64 0]), 3, 48) := by kernel_rfl
theorem gwsiz48 : ∀ w, (sizeOf 48).run Try.prog w = .ok 1 w := fun _ => by kernel_rfl
theorem gwsiz50 : ∀ w, (sizeOf 50).run Try.prog w = .ok 4 w := fun _ => by kernel_rfl
theorem gwsiz93 : ∀ w, (sizeOf 93).run Try.prog w = .ok 3 w := fun _ => by kernel_rfl
theorem gwzer50 : ∀ w, (zeroValue 50).run Try.prog w = .ok (.agg #[.slice none 0 0, .int .i64 0, .int .i64 0, .bool false]) w := fun _ => by kernel_rfl
set_option maxHeartbeats 4000000 in
set_option maxRecDepth 100000 in
theorem find_ref (Af : Option Addr) (cf : Nat) (files : List S93) (most fuse : Int) (down : Bool) (nm : ByteArray) (w : World) (hr : Kd.C k93 w Af files.length files) (hcf : files.length ≤ cf) (hlf : files.length ≤ 1000000) :
    Calls Try.prog 52 #[.agg #[.slice Af files.length cf, .int .i64 most, .int .i64 fuse, .bool down], .string nm] w fun e w' => e = .returned (.int .i64 (findR nm files 0)) ∧ Below w.heap.size w w' := by
 refine gw_start (N := 22) (vs := [.agg #[.slice Af files.length cf, J most, J fuse, .bool down], .string nm]) Try.func52 rfl rfl (by simp) fun a HF HO => ?_
 replace HO : Own w w [] := HO
 refine gw_seq fun K1 hK1 => ?_
 refine wp_region_lit ?_
 refine gw_new HF HO (want_none rfl) rfl (by decide) (op_box rfl (HF.ev rfl)) ?_
 intro g2 _ w4 H5 O6; clear HF HO
 have O7 : Own w w4 [Bk g2 [.slice Af files.length cf, J most, J fuse, .bool down] 50] := O6
 clear O6
 refine V H5 (op_assign rfl (ev_c _ _)) ?_
 intro _ H9; clear H5
 refine wpList_nil ?_
 refine gw_nx (hK1 _ _ ?_)
 refine gw_seq fun K10 hK10 => ?_
 refine gw_seq fun K11 hK11 => ?_
 refine wp_region_lit ?_
 refine V H9 (op_assign rfl (ev_c _ _)) ?_
 intro _ H13; clear H9
 refine wpList_nil ?_
 refine gw_nx (hK11 _ _ ?_)
 refine wp_block ?_
 refine gw_loop (fun m_ a_ w_ => ∃ (i : Int), Fr 22 a_ [(5, J i), (1, .string nm), (2, .pointer (some ⟨g2, 0, none⟩))] ∧ Own w w_ [Bk g2 [.slice Af files.length cf, J most, J fuse, .bool down] 50] ∧ (0 ≤ i ∧ i ≤ files.length) ∧ (findR nm (files.drop i.toNat) i = findR nm files 0) ∧ m_ = (files.length - i.toNat)) ((files.length - (0 : Int).toNat)) ?_ ?_
 ·
  refine ⟨0, (H13.pick (t := 5) rfl (H13.pick (t := 1) rfl (H13.pick (t := 2) rfl H13.nil))), O7.sel [0] (by decide), ?_, ?_, rfl⟩
  ·
   omega
  ·
   simp
 ·
  rintro m15 _ w17 ⟨i, H18, O19, hi, hR, hm20⟩
  refine gw_seq fun K21 hK21 => ?_
  refine gw_seq fun K22 hK22 => ?_
  refine wp_region_lit ?_
  refine V H18 (op_move rfl (H18.ev rfl)) ?_
  intro _ H24; clear H18
  refine V H24 (op_field (gwfld50_0 _ _) rfl (H24.ev rfl)) ?_
  intro _ H26; clear H24
  refine V H26 (op_load1 gwagg48 rfl (H26.ev rfl) (blk_at (O19.get 0 rfl) rfl)) ?_
  intro _ H28; clear H26
  refine V H28 (op_len Try.underlying48 rfl (H28.ev rfl)) ?_
  intro _ H30; clear H28
  refine V H30 (op_lss rfl (H30.ev rfl) (H30.ev rfl)) ?_
  intro _ H32; clear H30
  refine wpList_nil ?_
  refine gw_nx (hK22 _ _ ?_)
  refine gw_cond H32 rfl (fun hb33 => ?_) (fun hb33 => ?_)
  ·
   have H34 := H32.subst_ (d := 10) (b := true) rfl hb33
   clear H32
   (try simp only [decide_eq_true_eq] at hb33)
   refine wp_skip ?_
   refine gw_nx (hK21 _ _ ?_)
   refine gw_seq fun K35 hK35 => ?_
   refine wp_block ?_
   refine gw_seq fun K36 hK36 => ?_
   refine wp_region_lit ?_
   refine V H34 (op_field (gwfld50_0 _ _) rfl (H34.ev rfl)) ?_
   intro _ H38; clear H34
   refine V H38 (op_load1 gwagg48 rfl (H38.ev rfl) (blk_at (O19.get 0 rfl) rfl)) ?_
   intro _ H40; clear H38
   refine V H40 (op_move rfl (H40.ev rfl)) ?_
   intro _ H42; clear H40
   obtain ⟨ad43, cs46, hA44, hl47, hK48, hc45⟩ := Kd.C_get hr z93 i (by omega) (by omega)
   obtain ⟨A49, c50, rfl, hl51, hC52⟩ := k93_open hK48
   clear hl47
   refine V H42 (op_index Try.underlying48 gwsiz93 rfl (H42.ev rfl) (H42.ev rfl) hA44 (⟨by omega, by omega⟩)) ?_
   intro _ H54; clear H42
   refine V H54 (op_field (gwflda93_0 _) rfl (H54.ev rfl)) ?_
   intro _ H56; clear H54
   refine V H56 (op_load1 gwagg9 rfl (H56.ev rfl) ((cells0 O19 hc45 0 _ rfl))) ?_
   intro _ H58; clear H56
   refine V H58 (op_move rfl (H58.ev rfl)) ?_
   intro _ H60; clear H58
   refine V H60 (op_eqs rfl (H60.ev rfl) (H60.ev rfl)) ?_
   intro _ H62; clear H60
   refine wpList_nil ?_
   refine gw_nx (hK36 _ _ ?_)
   refine gw_cond H62 rfl (fun hb63 => ?_) (fun hb63 => ?_)
   ·
    have H64 := H62.subst_ (d := 20) (b := true) rfl hb63
    clear H62
    (try simp only [Bool.and_eq_true, Bool.or_eq_true, Bool.and_eq_false_iff, Bool.or_eq_false_iff, Bool.not_and, Bool.not_or, Bool.not_not, decide_eq_true_eq, decide_eq_false_iff_not, Bool.not_eq_true', Bool.not_eq_false', Bool.not_eq_true, Bool.not_eq_false, ne_eq, Decidable.not_not, Int.not_lt, Int.not_le, not_true_eq_false, not_false_eq_true, bne_iff_ne, beq_iff_eq, bne_eq_false_iff_eq, beq_eq_false_iff_ne] at hb63)
    have h20 := hb63
    refine gw_seq fun K65 hK65 => ?_
    refine wp_region_lit ?_
    refine V H64 (op_move rfl (H64.ev rfl)) ?_
    intro _ H67; clear H64
    refine V H67 (op_assign rfl (H67.ev rfl)) ?_
    intro _ H69; clear H67
    refine wpList_nil ?_
    refine gw_nx (hK65 _ _ ?_)
    refine wp_ret ?_
    refine gw_blr ?_
    refine gw_thr ?_
    refine gw_thr ?_
    refine gw_blr ?_
    refine gw_thr ?_
    refine gw_ret1 H69 rfl rfl ?_
    exact ⟨by rw [← hR, findR_at z93 (show i.toNat < files.length by omega)]; generalize files.getD i.toNat z93 = x_ at h20 ⊢; simp [h20], O19.below⟩
   ·
    have H70 := H62.subst_ (d := 20) (b := false) rfl hb63
    clear H62
    (try simp only [Bool.and_eq_true, Bool.or_eq_true, Bool.and_eq_false_iff, Bool.or_eq_false_iff, Bool.not_and, Bool.not_or, Bool.not_not, decide_eq_true_eq, decide_eq_false_iff_not, Bool.not_eq_true', Bool.not_eq_false', Bool.not_eq_true, Bool.not_eq_false, ne_eq, Decidable.not_not, Int.not_lt, Int.not_le, not_true_eq_false, not_false_eq_true, bne_iff_ne, beq_iff_eq, bne_eq_false_iff_eq, beq_eq_false_iff_ne] at hb63)
    have h20 := hb63
    refine wp_skip ?_
    refine gw_blk ?_
    refine gw_nx (hK35 _ _ ?_)
    refine wp_region_lit ?_
    refine V H70 (op_move rfl (H70.ev rfl)) ?_
    intro _ H72; clear H70
    refine V H72 (op_add rfl (H72.ev rfl) (ev_c _ _) (by omega)) ?_
    intro _ H74; clear H72
    refine V H74 (op_assign rfl (H74.ev rfl)) ?_
    intro _ H76; clear H74
    refine wpList_nil ?_
    refine gw_nx ⟨_, ?_, i + 1, (H76.pick (t := 5) rfl (H76.pick (t := 1) rfl (H76.pick (t := 2) rfl H76.nil))), O19.sel [0] (by decide), ?_, ?_, rfl⟩
    ·
     rw [hm20]; omega
    ·
     omega
    ·
     rw [← hR, findR_at z93 (show i.toNat < files.length by omega), show (i + 1).toNat = i.toNat + 1 by omega]; generalize files.getD i.toNat z93 = x_ at h20 ⊢; simp [h20]
  ·
   have H77 := H32.subst_ (d := 10) (b := false) rfl hb33
   clear H32
   (try simp only [decide_eq_false_iff_not, Int.not_lt] at hb33)
   refine wp_exit ?_
   refine gw_thx ?_
   refine gw_thx ?_
   refine gw_in ?_
   refine gw_nx (hK10 _ _ ?_)
   refine gw_seq fun K78 hK78 => ?_
   refine wp_region_lit ?_
   refine V H77 (op_assign rfl (ev_c _ _)) ?_
   intro _ H80; clear H77
   refine wpList_nil ?_
   refine gw_nx (hK78 _ _ ?_)
   refine wp_ret ?_
   refine gw_ret1 H80 rfl rfl ?_
   exact ⟨by rw [← hR, List.drop_eq_nil_of_le (by omega)]; rfl, O19.below⟩
set_option maxHeartbeats 4000000 in
set_option maxRecDepth 100000 in
theorem used_ref (Af : Option Addr) (cf : Nat) (files : List S93) (most fuse : Int) (down : Bool) (w : World) (hr : Kd.C k93 w Af files.length files) (hcf : files.length ≤ cf) (hlf : files.length ≤ 1000000) (hus : (files.map fun x => x.f1.length).sum ≤ 9223372036854775807) :
    Calls Try.prog 54 #[.agg #[.slice Af files.length cf, .int .i64 most, .int .i64 fuse, .bool down]] w fun e w' => e = .returned (.int .i64 ((files.map fun x => x.f1.length).sum : Nat)) ∧ Below w.heap.size w w' := by
 refine gw_start (N := 22) (vs := [.agg #[.slice Af files.length cf, J most, J fuse, .bool down]]) Try.func54 rfl rfl (by simp) fun a HF HO => ?_
 replace HO : Own w w [] := HO
 refine gw_seq fun K1 hK1 => ?_
 refine wp_region_lit ?_
 refine gw_new HF HO (want_none rfl) rfl (by decide) (op_box rfl (HF.ev rfl)) ?_
 intro g2 _ w4 H5 O6; clear HF HO
 have O7 : Own w w4 [Bk g2 [.slice Af files.length cf, J most, J fuse, .bool down] 50] := O6
 clear O6
 refine V H5 (op_assign rfl (ev_c _ _)) ?_
 intro _ H9; clear H5
 refine wpList_nil ?_
 refine gw_nx (hK1 _ _ ?_)
 refine gw_seq fun K10 hK10 => ?_
 refine wp_region_lit ?_
 refine V H9 (op_assign rfl (ev_c _ _)) ?_
 intro _ H12; clear H9
 refine wpList_nil ?_
 refine gw_nx (hK10 _ _ ?_)
 refine gw_seq fun K13 hK13 => ?_
 refine gw_seq fun K14 hK14 => ?_
 refine wp_region_lit ?_
 refine V H12 (op_assign rfl (ev_c _ _)) ?_
 intro _ H16; clear H12
 refine wpList_nil ?_
 refine gw_nx (hK14 _ _ ?_)
 refine wp_block ?_
 refine gw_loop (fun m_ a_ w_ => ∃ (i : Int) (u : Int), Fr 22 a_ [(4, J i), (3, J u), (1, .pointer (some ⟨g2, 0, none⟩)), (2, J 0)] ∧ Own w w_ [Bk g2 [.slice Af files.length cf, J most, J fuse, .bool down] 50] ∧ (0 ≤ i ∧ i ≤ files.length) ∧ (u = (((files.map fun x => x.f1.length).take i.toNat).sum : Nat)) ∧ m_ = (files.length - i.toNat)) ((files.length - (0 : Int).toNat)) ?_ ?_
 ·
  refine ⟨0, 0, (H16.pick (t := 4) rfl (H16.pick (t := 3) rfl (H16.pick (t := 1) rfl (H16.pick (t := 2) rfl H16.nil)))), O7.sel [0] (by decide), ?_, ?_, rfl⟩
  ·
   omega
  ·
   simp
 ·
  rintro m18 _ w20 ⟨i, u, H21, O22, hi, hu, hm23⟩
  refine gw_seq fun K24 hK24 => ?_
  refine gw_seq fun K25 hK25 => ?_
  refine wp_region_lit ?_
  refine V H21 (op_move rfl (H21.ev rfl)) ?_
  intro _ H27; clear H21
  refine V H27 (op_field (gwfld50_0 _ _) rfl (H27.ev rfl)) ?_
  intro _ H29; clear H27
  refine V H29 (op_load1 gwagg48 rfl (H29.ev rfl) (blk_at (O22.get 0 rfl) rfl)) ?_
  intro _ H31; clear H29
  refine V H31 (op_len Try.underlying48 rfl (H31.ev rfl)) ?_
  intro _ H33; clear H31
  refine V H33 (op_lss rfl (H33.ev rfl) (H33.ev rfl)) ?_
  intro _ H35; clear H33
  refine wpList_nil ?_
  refine gw_nx (hK25 _ _ ?_)
  refine gw_cond H35 rfl (fun hb36 => ?_) (fun hb36 => ?_)
  ·
   have H37 := H35.subst_ (d := 9) (b := true) rfl hb36
   clear H35
   (try simp only [decide_eq_true_eq] at hb36)
   refine wp_skip ?_
   refine gw_nx (hK24 _ _ ?_)
   refine gw_seq fun K38 hK38 => ?_
   refine wp_block ?_
   refine wp_region_lit ?_
   refine V H37 (op_move rfl (H37.ev rfl)) ?_
   intro _ H40; clear H37
   refine V H40 (op_field (gwfld50_0 _ _) rfl (H40.ev rfl)) ?_
   intro _ H42; clear H40
   refine V H42 (op_load1 gwagg48 rfl (H42.ev rfl) (blk_at (O22.get 0 rfl) rfl)) ?_
   intro _ H44; clear H42
   refine V H44 (op_move rfl (H44.ev rfl)) ?_
   intro _ H46; clear H44
   obtain ⟨ad47, cs50, hA48, hl51, hK52, hc49⟩ := Kd.C_get hr z93 i (by omega) (by omega)
   obtain ⟨A53, c54, rfl, hl55, hC56⟩ := k93_open hK52
   clear hl51
   refine V H46 (op_index Try.underlying48 gwsiz93 rfl (H46.ev rfl) (H46.ev rfl) hA48 (⟨by omega, by omega⟩)) ?_
   intro _ H58; clear H46
   refine V H58 (op_field (gwflda93_1 _) rfl (H58.ev rfl)) ?_
   intro _ H60; clear H58
   refine V H60 (op_load1 gwagg28 rfl (H60.ev rfl) ((cells0 O22 hc49 1 _ rfl))) ?_
   intro _ H62; clear H60
   refine V H62 (op_len Try.underlying28 rfl (H62.ev rfl)) ?_
   intro _ H64; clear H62
   refine V H64 (op_add rfl (H64.ev rfl) (H64.ev rfl) (by have h1_ := usum z93 (show i.toNat < files.length by omega); have h2_ := sum_le (files.map fun x => x.f1.length) (i.toNat + 1); omega)) ?_
   intro _ H66; clear H64
   refine V H66 (op_assign rfl (H66.ev rfl)) ?_
   intro _ H68; clear H66
   refine wpList_nil ?_
   refine gw_blk ?_
   refine gw_nx (hK38 _ _ ?_)
   refine wp_region_lit ?_
   refine V H68 (op_move rfl (H68.ev rfl)) ?_
   intro _ H70; clear H68
   refine V H70 (op_add rfl (H70.ev rfl) (ev_c _ _) (by omega)) ?_
   intro _ H72; clear H70
   refine V H72 (op_assign rfl (H72.ev rfl)) ?_
   intro _ H74; clear H72
   refine wpList_nil ?_
   refine gw_nx ⟨_, ?_, i + 1, (u + (((files.getD i.toNat z93).f1.length) : Int)), (H74.pick (t := 4) rfl (H74.pick (t := 3) rfl (H74.pick (t := 1) rfl (H74.pick (t := 2) rfl H74.nil)))), O22.sel [0] (by decide), ?_, ?_, rfl⟩
   ·
    rw [hm23]; omega
   ·
    omega
   ·
    rw [show (i + 1).toNat = i.toNat + 1 by omega, usum z93 (show i.toNat < files.length by omega)]; omega
  ·
   have H75 := H35.subst_ (d := 9) (b := false) rfl hb36
   clear H35
   (try simp only [decide_eq_false_iff_not, Int.not_lt] at hb36)
   refine wp_exit ?_
   refine gw_thx ?_
   refine gw_thx ?_
   refine gw_in ?_
   refine gw_nx (hK13 _ _ ?_)
   refine gw_seq fun K76 hK76 => ?_
   refine wp_region_lit ?_
   refine V H75 (op_move rfl (H75.ev rfl)) ?_
   intro _ H78; clear H75
   refine V H78 (op_assign rfl (H78.ev rfl)) ?_
   intro _ H80; clear H78
   refine wpList_nil ?_
   refine gw_nx (hK76 _ _ ?_)
   refine wp_ret ?_
   refine gw_ret1 H80 rfl rfl ?_
   exact ⟨by rw [hu, List.take_of_length_le (by rw [List.length_map]; omega)], O22.below⟩
set_option maxHeartbeats 4000000 in
set_option maxRecDepth 100000 in
theorem named_ref (s : ByteArray) (w : World) :
    Calls Try.prog 53 #[.string s] w fun e w' => e = .returned (.bool (namedB s)) ∧ Below w.heap.size w w' := by
 refine gw_start (N := 11) (vs := [.string s]) Try.func53 rfl rfl (by simp) fun a HF HO => ?_
 replace HO : Own w w [] := HO
 refine gw_seq fun K1 hK1 => ?_
 refine wp_region_lit ?_
 refine V HF (op_assign rfl (ev_c _ _)) ?_
 intro _ H3; clear HF
 refine wpList_nil ?_
 refine gw_nx (hK1 _ _ ?_)
 refine gw_seq fun K4 hK4 => ?_
 refine wp_region_lit ?_
 refine V H3 (op_move rfl (H3.ev rfl)) ?_
 intro _ H6; clear H3
 refine V H6 (op_lens Try.underlying9 rfl (H6.ev rfl)) ?_
 intro _ H8; clear H6
 refine V H8 (op_gtr rfl (H8.ev rfl) (ev_c _ _)) ?_
 intro _ H10; clear H8
 refine V H10 (op_move rfl (H10.ev rfl)) ?_
 intro _ H12; clear H10
 refine gw_evG H12 rfl rfl rfl rfl (on_t _) rfl (by decide) (fun h_ => (op_move rfl (H12.ev rfl))) ?_
 intro _ H14; clear H12
 refine gw_evG H14 rfl rfl rfl rfl (on_t _) rfl (by decide) (fun h_ => (op_lens Try.underlying9 rfl (ev_gv (H14.ev rfl) h_))) ?_
 intro _ H16; clear H14
 refine gw_evG H16 rfl rfl rfl rfl (on_t _) rfl (by decide) (fun h_ => (op_leq rfl (ev_gv (H16.ev rfl) h_) (ev_c _ _))) ?_
 intro _ H18; clear H16
 refine V H18 (op_pick_and rfl (H18.ev rfl) (fun hp_ => (ev_gv (H18.ev rfl) hp_)) (ev_c _ _)) ?_
 intro _ H20; clear H18
 refine V H20 (op_assign rfl (H20.ev rfl)) ?_
 intro _ H22; clear H20
 refine wpList_nil ?_
 refine gw_nx (hK4 _ _ ?_)
 refine wp_ret ?_
 refine gw_ret1 H22 rfl rfl ?_
 exact ⟨by rw [named_r], HO.below⟩
set_option maxHeartbeats 4000000 in
set_option maxRecDepth 100000 in
theorem new_ref (room : Int) (w : World) :
    Calls Try.prog 26 #[.int .i64 room] w fun e w' => e = .returned (.agg #[.slice none 0 0, .int .i64 (newD room).most, .int .i64 0, .bool false]) ∧ Below w.heap.size w w' := by
 refine gw_start (N := 7) (vs := [J room]) Try.func26 rfl rfl (by simp) fun a HF HO => ?_
 replace HO : Own w w [] := HO
 refine gw_seq fun K1 hK1 => ?_
 refine wp_region_lit ?_
 refine gw_new HF HO (want_none rfl) rfl (by decide) (op_alloc gwzer50 rfl) ?_
 intro g2 _ w4 H5 O6; clear HF HO
 have O7 : Own w w4 [Bk g2 [.slice none 0 0, J 0, J 0, .bool false] 50] := O6
 clear O6
 refine wpList_nil ?_
 refine gw_nx (hK1 _ _ ?_)
 refine gw_seq fun K8 hK8 => ?_
 refine gw_seq fun K9 hK9 => ?_
 refine wp_region_lit ?_
 refine V H5 (op_move rfl (H5.ev rfl)) ?_
 intro _ H11; clear H5
 refine V H11 (op_lss rfl (H11.ev rfl) (ev_c _ _)) ?_
 intro _ H13; clear H11
 refine wpList_nil ?_
 refine gw_nx (hK9 _ _ ?_)
 refine gw_cond H13 rfl (fun hb14 => ?_) (fun hb14 => ?_)
 ·
  have H15 := H13.subst_ (d := 4) (b := true) rfl hb14
  clear H13
  (try simp only [decide_eq_true_eq] at hb14)
  refine wp_region_lit ?_
  refine V H15 (op_assign rfl (ev_c _ _)) ?_
  intro _ H17; clear H15
  refine wpList_nil ?_
  refine gw_nx (hK8 _ _ ?_)
  refine gw_seq fun K18 hK18 => ?_
  refine wp_region_lit ?_
  refine V H17 (op_move rfl (H17.ev rfl)) ?_
  intro _ H20; clear H17
  refine V H20 (op_build (cells := #[.slice none 0 0, J 0, J 0, .bool false]) rfl (pt_cons (H20.ev rfl) pt_nil) (by kernel_rfl)) ?_
  intro _ H22; clear H20
  refine gw_setn 0 H22 O7 rfl (want_none rfl) rfl (op_storen gwsiz50 rfl (H22.ev rfl) (H22.ev rfl) (O7.get 0 rfl) rfl (by simp) (by simp [Value.oneCell'])) ?_
  intro _ w25 H24 O26; clear H22 O7
  have O27 : Own w w25 [Bk g2 [.slice none 0 0, J 0, J 0, .bool false] 50] := O26
  clear O26
  refine wpList_nil ?_
  refine gw_nx (hK18 _ _ ?_)
  refine wp_ret ?_
  refine gw_rets1 H24 rfl (rv_celln H24 rfl gwagg50 gwsiz50 (O27.get 0 rfl) rfl) ?_
  exact ⟨by show _ = Ending.returned (.agg #[.slice none 0 0, J (mx room 0), J 0, .bool false]); unfold mx; split <;> first | rfl | (exfalso; omega), O27.below⟩
 ·
  have H28 := H13.subst_ (d := 4) (b := false) rfl hb14
  clear H13
  (try simp only [decide_eq_false_iff_not, Int.not_lt] at hb14)
  refine wp_skip ?_
  refine gw_nx (hK8 _ _ ?_)
  refine gw_seq fun K29 hK29 => ?_
  refine wp_region_lit ?_
  refine V H28 (op_move rfl (H28.ev rfl)) ?_
  intro _ H31; clear H28
  refine V H31 (op_build (cells := #[.slice none 0 0, J room, J 0, .bool false]) rfl (pt_cons (H31.ev rfl) pt_nil) (by kernel_rfl)) ?_
  intro _ H33; clear H31
  refine gw_setn 0 H33 O7 rfl (want_none rfl) rfl (op_storen gwsiz50 rfl (H33.ev rfl) (H33.ev rfl) (O7.get 0 rfl) rfl (by simp) (by simp [Value.oneCell'])) ?_
  intro _ w36 H35 O37; clear H33 O7
  have O38 : Own w w36 [Bk g2 [.slice none 0 0, J room, J 0, .bool false] 50] := O37
  clear O37
  refine wpList_nil ?_
  refine gw_nx (hK29 _ _ ?_)
  refine wp_ret ?_
  refine gw_rets1 H35 rfl (rv_celln H35 rfl gwagg50 gwsiz50 (O38.get 0 rfl) rfl) ?_
  exact ⟨by show _ = Ending.returned (.agg #[.slice none 0 0, J (mx room 0), J 0, .bool false]); unfold mx; split <;> first | rfl | (exfalso; omega), O38.below⟩
set_option maxHeartbeats 4000000 in
set_option maxRecDepth 100000 in
theorem without_calls (P : Nat → Prop) (Af : Option Addr) (cf : Nat) (files : List S93) (most fuse : Int) (down : Bool) (nm : ByteArray) (w : World) (hP : ∀ k, P k → k < w.heap.size) (hF : Kd.F k93 w P Af files.length files) (hcf : files.length ≤ cf) (hlf : files.length ≤ 1000000) :
    Calls Try.prog 55 #[.agg #[.slice Af files.length cf, .int .i64 most, .int .i64 fuse, .bool down], .string nm] w fun e w' => ∃ A' c', e = .returned (.agg #[.slice A' (delR nm files).length c', .int .i64 most, .int .i64 fuse, .bool down]) ∧ Kd.N k93 93 w' w.heap.size (fun k => P k ∨ w.heap.size ≤ k) (.slice A' (delR nm files).length c') (delR nm files) ∧ Below w.heap.size w w' := by
 refine gw_start (N := 34) (vs := [.agg #[.slice Af files.length cf, J most, J fuse, .bool down], .string nm]) Try.func55 rfl rfl (by simp) fun a HF HO => ?_
 replace HO : Own w w [] := HO
 refine gw_seq fun K1 hK1 => ?_
 refine wp_region_lit ?_
 refine gw_new HF HO (want_none rfl) rfl (by decide) (op_box rfl (HF.ev rfl)) ?_
 intro g2 _ w4 H5 O6; clear HF HO
 have O7 : Own w w4 [Bk g2 [.slice Af files.length cf, J most, J fuse, .bool down] 50] := O6
 clear O6
 refine gw_new H5 O7 (want_none rfl) rfl (by decide) (op_alloc gwzer50 rfl) ?_
 intro g8 _ w10 H11 O12; clear H5 O7
 have O13 : Own w w10 [Bk g8 [.slice none 0 0, J 0, J 0, .bool false] 50, Bk g2 [.slice Af files.length cf, J most, J fuse, .bool down] 50] := O12
 clear O12
 refine wpList_nil ?_
 refine gw_nx (hK1 _ _ ?_)
 refine gw_seq fun K14 hK14 => ?_
 refine wp_region_lit ?_
 refine gw_plit0 k93 P (e := 93) H11 O13 (want_none rfl) rfl (by decide) (op_bslice (by kernel_rfl) rfl pt_nil) hP ?_
 intro A15 S16 _ w18 H19 O20; clear H11 O13
 have O21 : Own w w18 [Chunk.prow w P k93 93 w.heap.size S16 (.slice A15 (([] : List S93).length) 0) ([] : List S93), Bk g8 [.slice none 0 0, J 0, J 0, .bool false] 50, Bk g2 [.slice Af files.length cf, J most, J fuse, .bool down] 50] := O20
 clear O20
 refine V H19 (op_assign rfl (H19.ev rfl)) ?_
 intro _ H23; clear H19
 refine wpList_nil ?_
 refine gw_nx (hK14 _ _ ?_)
 refine gw_seq fun K24 hK24 => ?_
 refine gw_seq fun K25 hK25 => ?_
 refine wp_region_lit ?_
 refine V H23 (op_assign rfl (ev_c _ _)) ?_
 intro _ H27; clear H23
 refine wpList_nil ?_
 refine gw_nx (hK25 _ _ ?_)
 refine wp_block ?_
 refine gw_loop (fun m_ a_ w_ => ∃ (i : Int) (out : List S93) (Ao : Option Addr) (co : Nat) (So : Nat → Prop), Fr 34 a_ [(6, J i), (5, .slice Ao out.length co), (1, .string nm), (2, .pointer (some ⟨g2, 0, none⟩)), (4, .pointer (some ⟨g8, 0, none⟩))] ∧ Own w w_ [Chunk.prow w P k93 93 w.heap.size So (.slice Ao out.length co) out, Bk g8 [.slice none 0 0, J 0, J 0, .bool false] 50, Bk g2 [.slice Af files.length cf, J most, J fuse, .bool down] 50] ∧ (0 ≤ i ∧ i ≤ files.length) ∧ (out ++ delR nm (files.drop i.toNat) = delR nm files) ∧ ((out.length : Int) ≤ i) ∧ m_ = (files.length - i.toNat)) ((files.length - (0 : Int).toNat)) ?_ ?_
 ·
  refine ⟨0, [], A15, 0, _, (H27.pick (t := 6) rfl (H27.pick (t := 5) rfl (H27.pick (t := 1) rfl (H27.pick (t := 2) rfl (H27.pick (t := 4) rfl H27.nil))))), O21.sel [0, 1, 2] (by decide), ?_, ?_, ?_, rfl⟩
  ·
   omega
  ·
   simp
  ·
   simp
 ·
  rintro m29 _ w31 ⟨i, out, Ao, co, So, H32, O33, hi, hW, hlo, hm34⟩
  refine gw_seq fun K35 hK35 => ?_
  refine gw_seq fun K36 hK36 => ?_
  refine wp_region_lit ?_
  refine V H32 (op_move rfl (H32.ev rfl)) ?_
  intro _ H38; clear H32
  refine V H38 (op_field (gwfld50_0 _ _) rfl (H38.ev rfl)) ?_
  intro _ H40; clear H38
  refine V H40 (op_load1 gwagg48 rfl (H40.ev rfl) (blk_at (O33.get 2 rfl) rfl)) ?_
  intro _ H42; clear H40
  refine V H42 (op_len Try.underlying48 rfl (H42.ev rfl)) ?_
  intro _ H44; clear H42
  refine V H44 (op_lss rfl (H44.ev rfl) (H44.ev rfl)) ?_
  intro _ H46; clear H44
  refine wpList_nil ?_
  refine gw_nx (hK36 _ _ ?_)
  refine gw_cond H46 rfl (fun hb47 => ?_) (fun hb47 => ?_)
  ·
   have H48 := H46.subst_ (d := 12) (b := true) rfl hb47
   clear H46
   (try simp only [decide_eq_true_eq] at hb47)
   refine wp_skip ?_
   refine gw_nx (hK35 _ _ ?_)
   refine gw_seq fun K49 hK49 => ?_
   refine wp_block ?_
   refine gw_seq fun K50 hK50 => ?_
   refine wp_region_lit ?_
   refine V H48 (op_field (gwfld50_0 _ _) rfl (H48.ev rfl)) ?_
   intro _ H52; clear H48
   refine V H52 (op_load1 gwagg48 rfl (H52.ev rfl) (blk_at (O33.get 2 rfl) rfl)) ?_
   intro _ H54; clear H52
   refine V H54 (op_move rfl (H54.ev rfl)) ?_
   intro _ H56; clear H54
   obtain ⟨ad57, cs60, hA58, hl61, hK62, hc59, _⟩ := Kd.F_get hF z93 i (by omega) (by omega)
   obtain ⟨A63, c64, rfl, hl65, hC66⟩ := k93_openF hK62
   clear hl61
   refine V H56 (op_index Try.underlying48 gwsiz93 rfl (H56.ev rfl) (H56.ev rfl) hA58 (⟨by omega, by omega⟩)) ?_
   intro _ H68; clear H56
   refine V H68 (op_field (gwflda93_0 _) rfl (H68.ev rfl)) ?_
   intro _ H70; clear H68
   refine V H70 (op_load1 gwagg9 rfl (H70.ev rfl) ((cells0 O33 hc59 0 _ rfl))) ?_
   intro _ H72; clear H70
   refine V H72 (op_move rfl (H72.ev rfl)) ?_
   intro _ H74; clear H72
   refine V H74 (op_nes rfl (H74.ev rfl) (H74.ev rfl)) ?_
   intro _ H76; clear H74
   refine wpList_nil ?_
   refine gw_nx (hK50 _ _ ?_)
   refine gw_cond H76 rfl (fun hb77 => ?_) (fun hb77 => ?_)
   ·
    have H78 := H76.subst_ (d := 22) (b := true) rfl hb77
    clear H76
    (try simp only [Bool.and_eq_true, Bool.or_eq_true, Bool.and_eq_false_iff, Bool.or_eq_false_iff, Bool.not_and, Bool.not_or, Bool.not_not, decide_eq_true_eq, decide_eq_false_iff_not, Bool.not_eq_true', Bool.not_eq_false', Bool.not_eq_true, Bool.not_eq_false, ne_eq, Decidable.not_not, Int.not_lt, Int.not_le, not_true_eq_false, not_false_eq_true, bne_iff_ne, beq_iff_eq, bne_eq_false_iff_eq, beq_eq_false_iff_ne] at hb77)
    have h22 := hb77
    refine wp_region_lit ?_
    refine V H78 (op_move rfl (H78.ev rfl)) ?_
    intro _ H80; clear H78
    refine V H80 (op_field (gwfld50_0 _ _) rfl (H80.ev rfl)) ?_
    intro _ H82; clear H80
    refine V H82 (op_load1 gwagg48 rfl (H82.ev rfl) (blk_at (O33.get 2 rfl) rfl)) ?_
    intro _ H84; clear H82
    refine V H84 (op_move rfl (H84.ev rfl)) ?_
    intro _ H86; clear H84
    obtain ⟨ad87, cs90, hA88, hl91, hK92, hc89, _⟩ := Kd.F_get hF z93 i (by omega) (by omega)
    obtain ⟨A93, c94, rfl, hl95, hC96⟩ := k93_openF hK92
    clear hl91
    refine V H86 (op_index Try.underlying48 gwsiz93 rfl (H86.ev rfl) (H86.ev rfl) hA88 (⟨by omega, by omega⟩)) ?_
    intro _ H98; clear H86
    refine V H98 (op_loadc gwagg93 gwsiz93 rfl (H98.ev rfl) rfl (cells0 O33 hc89)) ?_
    intro _ H100; clear H98
    refine gw_news (O := .cells #[.string ((files.getD i.toNat z93).f0), .slice A93 ((files.getD i.toNat z93).f1.length) c94, J ((files.getD i.toNat z93).f2)] 93 (0, 0)) (n := 1) H100 O33 (want_none rfl) rfl (by decide) (op_bslice (by kernel_rfl) rfl (pt_cons (H100.ev rfl) pt_nil)) ?_
    intro g101 _ w103 H104 O105; clear H100 O33
    have O106 : Own w w103 [Bk g101 [.string ((files.getD i.toNat z93).f0), .slice A93 ((files.getD i.toNat z93).f1.length) c94, J ((files.getD i.toNat z93).f2)] 93, Chunk.prow w P k93 93 w.heap.size So (.slice Ao out.length co) out, Bk g8 [.slice none 0 0, J 0, J 0, .bool false] 50, Bk g2 [.slice Af files.length cf, J most, J fuse, .bool down] 50] := O105
    clear O105
    refine gw_pappend1 k93 (cs := [.string ((files.getD i.toNat z93).f0), .slice A93 ((files.getD i.toNat z93).f1.length) c94, J ((files.getD i.toNat z93).f2)]) (p := (⟨(files.getD i.toNat z93).f0, (files.getD i.toNat z93).f1, (files.getD i.toNat z93).f2⟩ : S93)) hP H104 (by exact O106.sel [1, 0, 2, 3] (by decide)) (want_none rfl) rfl (by decide) rfl Try.underlying48 gwinfo93 rfl (by decide) (by decide) (H104.ev rfl) (H104.ev rfl) (k93_mkF _ _ (⟨(files.getD i.toNat z93).f0, (files.getD i.toNat z93).f1, (files.getD i.toNat z93).f2⟩ : S93) hl95 hC96) O106.below.size (by first | omega | (simp; omega)) ?_
    intro A107 c108 S109 _ w111 H112 O113; clear H104 O106
    have O114 : Own w w111 [Chunk.prow w P k93 93 w.heap.size S109 (.slice A107 ((out ++ [(⟨(files.getD i.toNat z93).f0, (files.getD i.toNat z93).f1, (files.getD i.toNat z93).f2⟩ : S93)]).length) c108) (out ++ [(⟨(files.getD i.toNat z93).f0, (files.getD i.toNat z93).f1, (files.getD i.toNat z93).f2⟩ : S93)]), Bk g8 [.slice none 0 0, J 0, J 0, .bool false] 50, Bk g2 [.slice Af files.length cf, J most, J fuse, .bool down] 50] := O113
    clear O113
    refine V H112 (op_assign rfl (H112.ev rfl)) ?_
    intro _ H116; clear H112
    refine wpList_nil ?_
    refine gw_blk ?_
    refine gw_nx (hK49 _ _ ?_)
    refine wp_region_lit ?_
    refine V H116 (op_move rfl (H116.ev rfl)) ?_
    intro _ H118; clear H116
    refine V H118 (op_add rfl (H118.ev rfl) (ev_c _ _) (by omega)) ?_
    intro _ H120; clear H118
    refine V H120 (op_assign rfl (H120.ev rfl)) ?_
    intro _ H122; clear H120
    refine wpList_nil ?_
    refine gw_nx ⟨_, ?_, i + 1, (out ++ [(⟨(files.getD i.toNat z93).f0, (files.getD i.toNat z93).f1, (files.getD i.toNat z93).f2⟩ : S93)]), A107, c108, _, (H122.pick (t := 6) rfl (H122.pick (t := 5) rfl (H122.pick (t := 1) rfl (H122.pick (t := 2) rfl (H122.pick (t := 4) rfl H122.nil))))), O114.sel [0, 1, 2] (by decide), ?_, ?_, ?_, rfl⟩
    ·
     rw [hm34]; omega
    ·
     omega
    ·
     rw [← hW, delR_at z93 (show i.toNat < files.length by omega), show (i + 1).toNat = i.toNat + 1 by omega]; generalize files.getD i.toNat z93 = x_ at h22 ⊢; simp [h22]
    ·
     (try simp only [List.length_append, List.length_singleton]); omega
   ·
    have H123 := H76.subst_ (d := 22) (b := false) rfl hb77
    clear H76
    (try simp only [Bool.and_eq_true, Bool.or_eq_true, Bool.and_eq_false_iff, Bool.or_eq_false_iff, Bool.not_and, Bool.not_or, Bool.not_not, decide_eq_true_eq, decide_eq_false_iff_not, Bool.not_eq_true', Bool.not_eq_false', Bool.not_eq_true, Bool.not_eq_false, ne_eq, Decidable.not_not, Int.not_lt, Int.not_le, not_true_eq_false, not_false_eq_true, bne_iff_ne, beq_iff_eq, bne_eq_false_iff_eq, beq_eq_false_iff_ne] at hb77)
    have h22 := hb77
    refine wp_skip ?_
    refine gw_blk ?_
    refine gw_nx (hK49 _ _ ?_)
    refine wp_region_lit ?_
    refine V H123 (op_move rfl (H123.ev rfl)) ?_
    intro _ H125; clear H123
    refine V H125 (op_add rfl (H125.ev rfl) (ev_c _ _) (by omega)) ?_
    intro _ H127; clear H125
    refine V H127 (op_assign rfl (H127.ev rfl)) ?_
    intro _ H129; clear H127
    refine wpList_nil ?_
    refine gw_nx ⟨_, ?_, i + 1, out, Ao, co, _, (H129.pick (t := 6) rfl (H129.pick (t := 5) rfl (H129.pick (t := 1) rfl (H129.pick (t := 2) rfl (H129.pick (t := 4) rfl H129.nil))))), O33.sel [0, 1, 2] (by decide), ?_, ?_, ?_, rfl⟩
    ·
     rw [hm34]; omega
    ·
     omega
    ·
     rw [← hW, delR_at z93 (show i.toNat < files.length by omega), show (i + 1).toNat = i.toNat + 1 by omega]; generalize files.getD i.toNat z93 = x_ at h22 ⊢; simp [h22]
    ·
     (try simp only [List.length_append, List.length_singleton]); omega
  ·
   have H130 := H46.subst_ (d := 12) (b := false) rfl hb47
   clear H46
   (try simp only [decide_eq_false_iff_not, Int.not_lt] at hb47)
   refine wp_exit ?_
   refine gw_thx ?_
   refine gw_thx ?_
   refine gw_in ?_
   refine gw_nx (hK24 _ _ ?_)
   refine gw_seq fun K131 hK131 => ?_
   refine wp_region_lit ?_
   refine V H130 (op_move rfl (H130.ev rfl)) ?_
   intro _ H133; clear H130
   refine V H133 (op_field (gwfld50_0 _ _) rfl (H133.ev rfl)) ?_
   intro _ H135; clear H133
   refine gw_set 2 H135 O33 rfl (want_none rfl) rfl (op_store1 gwsiz48 rfl (H135.ev rfl) (H135.ev rfl) rfl (blk_at (O33.get 2 rfl) rfl) (blkf (O33.get 2 rfl))) ?_
   intro _ w138 H137 O139; clear H135 O33
   have O140 : Own w w138 [Chunk.prow w P k93 93 w.heap.size So (.slice Ao out.length co) out, Bk g8 [.slice none 0 0, J 0, J 0, .bool false] 50, Bk g2 [.slice Ao out.length co, J most, J fuse, .bool down] 50] := O139
   clear O139
   refine wpList_nil ?_
   refine gw_nx (hK131 _ _ ?_)
   refine gw_seq fun K141 hK141 => ?_
   refine wp_region_lit ?_
   refine V H137 (op_loadn gwagg50 gwsiz50 rfl (H137.ev rfl) (O140.get 2 rfl) rfl rfl) ?_
   intro _ H143; clear H137
   refine gw_setn 1 H143 O140 rfl (want_none rfl) rfl (op_storen gwsiz50 rfl (H143.ev rfl) (H143.ev rfl) (O140.get 1 rfl) rfl (by simp) (by simp [Value.oneCell'])) ?_
   intro _ w146 H145 O147; clear H143 O140
   have O148 : Own w w146 [Chunk.prow w P k93 93 w.heap.size So (.slice Ao out.length co) out, Bk g8 [.slice Ao out.length co, J most, J fuse, .bool down] 50, Bk g2 [.slice Ao out.length co, J most, J fuse, .bool down] 50] := O147
   clear O147
   refine wpList_nil ?_
   refine gw_nx (hK141 _ _ ?_)
   refine wp_ret ?_
   refine gw_rets1 H145 rfl (rv_celln H145 rfl gwagg50 gwsiz50 (O148.get 1 rfl) rfl) ?_
   rw [List.drop_eq_nil_of_le (by omega)] at hW
   have hr_ : out = delR nm files := by rw [← hW]; simp [delR]
   rw [← hr_]
   exact ⟨_, _, rfl, Kd.N_mono (prow_N O148 hP (O148.get 0 rfl)) (fun k_ hk_ => hk_.elim .inl (fun h_ => .inr (O148.lt 0 rfl h_).1)), O148.below⟩
end GRef0_
export GRef0_ (find_ref used_ref named_ref new_ref without_calls)
end Go.Proofs.Ytkdahjnmldeklaa.PA
end
section
namespace Go.Proofs.Ytkdahjnmldeklaa.PA
open Go.RowKit Go.Maps Go.Proofs.YtkdahjnmldeklaaW.PrintWords Go.Proofs.YtkdahjnmldeklaaW.PrintLast Go.Proofs.YtkdahjnmldeklaaW.PrintMore
set_option linter.unusedVariables false
set_option linter.unusedSimpArgs false
theorem without_own {w0 w : World} {P : Nat → Prop} {L : List Chunk} (Af : Option Addr) (cf : Nat) (files : List S93) (most fuse : Int) (down : Bool) (nm : ByteArray) (hP : ∀ k, P k → k < w0.heap.size) (HO : Own w0 w L)
    (hF : Kd.F k93 w0 P Af files.length files) (hcf : files.length ≤ cf) (hlf : files.length ≤ 1000000) :
    Calls Try.prog 55 #[.agg #[.slice Af files.length cf, .int .i64 most, .int .i64 fuse, .bool down], .string nm] w fun e w' => ∃ A' c' S', e = .returned (.agg #[.slice A' (delR nm files).length c', .int .i64 most, .int .i64 fuse, .bool down]) ∧
      Out w w' (fun _ => False) [Chunk.prow w0 P k93 93 w0.heap.size S' (.slice A' (delR nm files).length c') (delR nm files)] := by
  have hPw : ∀ k, P k → k < w.heap.size := fun k hk => Nat.lt_of_lt_of_le (hP k hk) HO.below.size
  refine (without_calls P Af cf files most fuse down nm w hPw (Kd.F_step hF fun k hk _ => HO.below.block k (hP k hk)) hcf hlf).mono ?_
  rintro e w' ⟨A', c', rfl, hN, hb⟩
  have hN2 := Kd.N_bound hN
  have hPk : ∀ k, P k → w'.heap[k]? = w0.heap[k]? := fun k hk => (hb.block k (hPw k hk)).trans (HO.below.block k (hP k hk))
  refine ⟨A', c', (fun k => w.heap.size ≤ k ∧ k < w'.heap.size), rfl, Out.one (Out.of_below hb _) (c := Chunk.prow w0 P k93 93 w0.heap.size (fun k => w.heap.size ≤ k ∧ k < w'.heap.size) _ _) (prow_of (fun k hk => ⟨Kd.N_base hN k hk, Kd.N_lt hN k hk⟩) ?_ hPk) fun k hk => ⟨.inr hk.1, hk.2⟩⟩
  refine Kd.N_lower (Kd.N_mono hN2 fun k hk => ?_) HO.below.size
  rcases hk.1 with h | h
  · exact .inl h
  · exact .inr ⟨h, hk.2⟩
theorem with_upd {files : List S93} {d : PD} {nm : ByteArray} {x f : S93} {h : PF → PF} (hd : files.map ofS = d.fs) (hw : wfD d) (hgd : getF nm d.fs = some (ofS x)) (hf : ofS f = h (ofS x)) (hn : f.f0 = nm) : (withL f files false).map ofS = updF nm h d.fs := by
  rw [withL_ins f files (by rw [hd]; exact hw.ris), hd, hf, hn]
  exact upd_ins hw.ris hgd (by rw [← hf]; exact hn)
theorem with_ren {files : List S93} {d d1 : PD} {nm dest : ByteArray} {x : S93} (hd : files.map ofS = d.fs) (hw : wfD d) (hgd : getF nm d.fs = some (ofS x)) (h1 : d1.fs = d.fs) : (withL ⟨dest, x.f1, x.f2⟩ (delR nm files) false).map ofS = (renK nm dest (ofS x) d1).fs := by
  have hr : risF ((delR nm files).map ofS) := by rw [delR_of, hd]; exact hw.ris.sublist List.filter_sublist
  rw [withL_ins _ _ hr, delR_of, hd, ← h1]
  have := ren_ins (dest := dest) (d := d1) (by rw [h1]; exact hw.ris) (by rw [h1]; exact hgd)
  exact this
theorem take_one {xs : List Int} {i : Int} (h0 : 0 ≤ i) (h1 : i < xs.length) : xs.take (i + 1).toNat = xs.take i.toNat ++ [xs.getD i.toNat (0 : Int)] := by
  have e : xs.getD i.toNat (0 : Int) = xs[i.toNat]'(by omega) := by simp [List.getD_eq_getElem?_getD, List.getElem?_eq_getElem (show i.toNat < xs.length by omega)]
  rw [e, show (i + 1).toNat = i.toNat + 1 by omega, List.take_succ_eq_append_getElem (by omega)]
theorem ren_keeps (nm dest : ByteArray) (f : PF) (d : PD) : (renK nm dest f d).most = d.most ∧ (renK nm dest f d).fuse = d.fuse ∧ (renK nm dest f d).down = d.down := by
  unfold renK
  split
  · exact ⟨rfl, rfl, rfl⟩
  · obtain ⟨a, b, c, _⟩ := drop_keeps dest d
    exact ⟨a, b, c⟩
theorem do_newE {P S : Nat → Prop} {w w' : World} {L : List Chunk} {r : PD × Int} {d2 : PD} {c m fu : Int} {dn : Bool} {A : Option Addr} {cf : Nat} {files : List S93} (hP : ∀ k, P k → k < w.heap.size) (hr : r = (d2, c)) (hk : d2.most = m ∧ d2.fuse = fu ∧ d2.down = dn) (hd : files.map ofS = d2.fs) (HO : Own w w' L) (i : Nat) (hi : L[i]? = some (Chunk.prow w P k93 93 w.heap.size S (.slice A files.length cf) files)) :
    DoPost P w w' (.returned (.tuple #[.agg #[.slice A files.length cf, .int .i64 m, .int .i64 fu, .bool dn], .int .i64 c])) r := by
  obtain ⟨rfl, rfl, rfl⟩ := hk
  exact do_new hP hr hd HO i hi
section
variable {kd n : Int} {A Z : ByteArray} {y : List Int} {d : PD} {f : PF}
def kstepD (kd : Int) (A Z : ByteArray) (n : Int) (y : List Int) (f : PF) (d : PD) : PD :=
  if kd = 1 then { d with fs := insF ⟨A, [], 0⟩ (delF A d.fs) } else if kd = 2 then { d with fs := updF A (fun f => { f with b := f.b ++ y }) d.fs, used := d.used + y.length } else if kd = 3 then { d with fs := updF A (fun f => { f with sf := f.b.length }) d.fs } else if kd = 4 then renK A Z f d
  else if kd = 5 then { d with fs := updF A (fun f => { f with b := f.b.take n.toNat, sf := mn f.sf n }) d.fs, used := d.used - (f.b.length - n) } else dropD A d
theorem does_down (h : d.down = true) : doesD kd A Z n y d = (d, 70) := by
  unfold doesD
  repeat' split
  · exact create_down h
  · exact with_down h
  · exact with_down h
  · exact rename_down h
  · exact with_down h
  · exact with_down h
theorem does_bad (hd : d.down = false) (h : (kd = 1 ∧ namedB A = false) ∨ (kd = 4 ∧ namedB Z = false)) : doesD kd A Z n y d = (d, 1) := by
  rcases h with ⟨rfl, h⟩ | ⟨rfl, h⟩
  · exact (does1 rfl).trans (create_bad hd h)
  · exact (does4 (by decide) (by decide) (by decide) rfl).trans (rename_bad hd h)
theorem does_none (hd : d.down = false) (h1 : ¬ kd = 1) (h4 : kd = 4 → namedB Z = true) (hg : getF A d.fs = none) : doesD kd A Z n y d = (d, 4) := by
  unfold doesD
  rw [if_neg h1]
  repeat' split
  · exact with_none hd hg
  · exact with_none hd hg
  · rename_i h; exact rename_none hd (h4 h) hg
  · exact with_none hd hg
  · exact with_none hd hg
theorem does_go (hd : d.down = false) (h : (kd = 1 ∧ namedB A = true ∧ getF A d.fs = none) ∨ (¬ kd = 1 ∧ getF A d.fs = some f ∧ (kd = 2 → ¬ d.most - d.used < y.length) ∧ (kd = 4 → namedB Z = true) ∧ (kd = 5 → ¬ (n < 0 ∨ (f.b.length : Int) < n)))) : doesD kd A Z n y d = stepD d (kstepD kd A Z n y f) := by
  rcases h with ⟨rfl, h2, h3⟩ | ⟨h1, h2, h3, h4, h5⟩
  · exact (does1 rfl).trans (create_go hd h2 h3)
  unfold doesD
  rw [if_neg h1]
  have e : ∀ k : PD → PD, (∀ d, k d = kstepD kd A Z n y f d) → stepD d k = stepD d (kstepD kd A Z n y f) := fun k hk => by rw [show k = kstepD kd A Z n y f from funext hk]
  by_cases k2 : kd = 2
  · rw [if_pos k2]
    exact (append_go hd h2 (h3 k2)).trans (e _ fun d => by unfold kstepD; rw [if_neg h1, if_pos k2])
  rw [if_neg k2]
  by_cases k3 : kd = 3
  · rw [if_pos k3]
    exact (sync_go hd h2).trans (e _ fun d => by unfold kstepD; rw [if_neg h1, if_neg k2, if_pos k3])
  rw [if_neg k3]
  by_cases k4 : kd = 4
  · rw [if_pos k4]
    exact (rename_go hd (h4 k4) h2).trans (e _ fun d => by unfold kstepD; rw [if_neg h1, if_neg k2, if_neg k3, if_pos k4])
  rw [if_neg k4]
  by_cases k5 : kd = 5
  · rw [if_pos k5]
    exact (cut_go hd h2 (h5 k5)).trans (e _ fun d => by unfold kstepD; rw [if_neg h1, if_neg k2, if_neg k3, if_neg k4, if_pos k5])
  rw [if_neg k5]
  exact (remove_go hd h2).trans (e _ fun d => by unfold kstepD; rw [if_neg h1, if_neg k2, if_neg k3, if_neg k4, if_neg k5])
theorem ks1 (h : kd = 1) : kstepD kd A Z n y f d = { d with fs := insF ⟨A, [], 0⟩ (delF A d.fs) } := if_pos h
theorem ks2 (h : kd = 2) : kstepD kd A Z n y f d = { d with fs := updF A (fun f => { f with b := f.b ++ y }) d.fs, used := d.used + y.length } := by unfold kstepD; rw [if_neg (by omega), if_pos h]
theorem ks3 (h : kd = 3) : kstepD kd A Z n y f d = { d with fs := updF A (fun f => { f with sf := f.b.length }) d.fs } := by unfold kstepD; rw [if_neg (by omega), if_neg (by omega), if_pos h]
theorem ks4 (h : kd = 4) : kstepD kd A Z n y f d = renK A Z f d := by unfold kstepD; rw [if_neg (by omega), if_neg (by omega), if_neg (by omega), if_pos h]
theorem ks5 (h : kd = 5) : kstepD kd A Z n y f d = { d with fs := updF A (fun f => { f with b := f.b.take n.toNat, sf := mn f.sf n }) d.fs, used := d.used - (f.b.length - n) } := by unfold kstepD; rw [if_neg (by omega), if_neg (by omega), if_neg (by omega), if_neg (by omega), if_pos h]
theorem ks6 (h : kd = 6) : kstepD kd A Z n y f d = dropD A d := by unfold kstepD; rw [if_neg (by omega), if_neg (by omega), if_neg (by omega), if_neg (by omega), if_neg (by omega)]
end
end Go.Proofs.Ytkdahjnmldeklaa.PA
end
section
namespace Go.Proofs.Ytkdahjnmldeklaa.PA
open Go.RowKit Go.Proofs.YtkdahjnmldeklaaW.PrintWords Go.Proofs.YtkdahjnmldeklaaW.PrintLast Go.Proofs.YtkdahjnmldeklaaW.PrintMore
set_option linter.unusedVariables false
set_option linter.unusedSimpArgs false
namespace GRef1_
theorem gwagg28 : ∀ w, (isAgg 28).run Try.prog w = .ok false w := fun _ => by kernel_rfl
theorem gwagg3 : ∀ w, (isAgg 3).run Try.prog w = .ok false w := fun _ => by kernel_rfl
theorem gwagg4 : ∀ w, (isAgg 4).run Try.prog w = .ok false w := fun _ => by kernel_rfl
theorem gwagg48 : ∀ w, (isAgg 48).run Try.prog w = .ok false w := fun _ => by kernel_rfl
theorem gwagg5 : ∀ w, (isAgg 5).run Try.prog w = .ok false w := fun _ => by kernel_rfl
theorem gwagg50 : ∀ w, (isAgg 50).run Try.prog w = .ok true w := fun _ => by kernel_rfl
theorem gwagg9 : ∀ w, (isAgg 9).run Try.prog w = .ok false w := fun _ => by kernel_rfl
theorem gwagg93 : ∀ w, (isAgg 93).run Try.prog w = .ok true w := fun _ => by kernel_rfl
theorem gwfld50_0 (g off : Nat) : ∀ w, (Instr.fieldAt 50 (.pointer (some ⟨g, off, none⟩)) 0).run Try.prog w = .ok (.pointer (some ⟨g, off + 0, none⟩)) w := fun _ => by kernel_rfl
theorem gwfld50_1 (g off : Nat) : ∀ w, (Instr.fieldAt 50 (.pointer (some ⟨g, off, none⟩)) 1).run Try.prog w = .ok (.pointer (some ⟨g, off + 1, none⟩)) w := fun _ => by kernel_rfl
theorem gwfld50_2 (g off : Nat) : ∀ w, (Instr.fieldAt 50 (.pointer (some ⟨g, off, none⟩)) 2).run Try.prog w = .ok (.pointer (some ⟨g, off + 2, none⟩)) w := fun _ => by kernel_rfl
theorem gwfld50_3 (g off : Nat) : ∀ w, (Instr.fieldAt 50 (.pointer (some ⟨g, off, none⟩)) 3).run Try.prog w = .ok (.pointer (some ⟨g, off + 3, none⟩)) w := fun _ => by kernel_rfl
theorem gwfld55_0 (g off : Nat) : ∀ w, (Instr.fieldAt 55 (.pointer (some ⟨g, off, none⟩)) 0).run Try.prog w = .ok (.pointer (some ⟨g, off + 0, none⟩)) w := fun _ => by kernel_rfl
theorem gwfld55_1 (g off : Nat) : ∀ w, (Instr.fieldAt 55 (.pointer (some ⟨g, off, none⟩)) 1).run Try.prog w = .ok (.pointer (some ⟨g, off + 1, none⟩)) w := fun _ => by kernel_rfl
theorem gwfld55_2 (g off : Nat) : ∀ w, (Instr.fieldAt 55 (.pointer (some ⟨g, off, none⟩)) 2).run Try.prog w = .ok (.pointer (some ⟨g, off + 2, none⟩)) w := fun _ => by kernel_rfl
theorem gwfld55_3 (g off : Nat) : ∀ w, (Instr.fieldAt 55 (.pointer (some ⟨g, off, none⟩)) 3).run Try.prog w = .ok (.pointer (some ⟨g, off + 3, none⟩)) w := fun _ => by kernel_rfl
theorem gwfld55_4 (g off : Nat) : ∀ w, (Instr.fieldAt 55 (.pointer (some ⟨g, off, none⟩)) 4).run Try.prog w = .ok (.pointer (some ⟨g, off + 4, none⟩)) w := fun _ => by kernel_rfl
theorem gwfld93_0 (g off : Nat) : ∀ w, (Instr.fieldAt 93 (.pointer (some ⟨g, off, none⟩)) 0).run Try.prog w = .ok (.pointer (some ⟨g, off + 0, none⟩)) w := fun _ => by kernel_rfl
theorem gwfld93_1 (g off : Nat) : ∀ w, (Instr.fieldAt 93 (.pointer (some ⟨g, off, none⟩)) 1).run Try.prog w = .ok (.pointer (some ⟨g, off + 1, none⟩)) w := fun _ => by kernel_rfl
theorem gwfld93_2 (g off : Nat) : ∀ w, (Instr.fieldAt 93 (.pointer (some ⟨g, off, none⟩)) 2).run Try.prog w = .ok (.pointer (some ⟨g, off + 2, none⟩)) w := fun _ => by kernel_rfl
theorem gwflda93_0 (ad : Addr) : ∀ w, (Instr.fieldAt 93 (.pointer (some ad)) 0).run Try.prog w = .ok (.pointer (some (ad.add 0))) w := fun _ => by kernel_rfl
theorem gwflda93_1 (ad : Addr) : ∀ w, (Instr.fieldAt 93 (.pointer (some ad)) 1).run Try.prog w = .ok (.pointer (some (ad.add 1))) w := fun _ => by kernel_rfl
theorem gwinfo5 : (Try.prog.info? 5).map (fun i => (i.zero, i.size, i.bytes)) = some (some (.int .u8 0), 1, 1) := by kernel_rfl
theorem gwinfo93 : (Try.prog.info? 93).map (fun i => (i.zero, i.size, i.bytes)) = some (some (.agg #[.string (⟨#[]⟩ : ByteArray), .slice none 0 0, .int .i64 0]), 3, 48) := by kernel_rfl
theorem gwsiz28 : ∀ w, (sizeOf 28).run Try.prog w = .ok 1 w := fun _ => by kernel_rfl
theorem gwsiz3 : ∀ w, (sizeOf 3).run Try.prog w = .ok 1 w := fun _ => by kernel_rfl
theorem gwsiz4 : ∀ w, (sizeOf 4).run Try.prog w = .ok 1 w := fun _ => by kernel_rfl
theorem gwsiz48 : ∀ w, (sizeOf 48).run Try.prog w = .ok 1 w := fun _ => by kernel_rfl
theorem gwsiz5 : ∀ w, (sizeOf 5).run Try.prog w = .ok 1 w := fun _ => by kernel_rfl
theorem gwsiz50 : ∀ w, (sizeOf 50).run Try.prog w = .ok 4 w := fun _ => by kernel_rfl
theorem gwsiz9 : ∀ w, (sizeOf 9).run Try.prog w = .ok 1 w := fun _ => by kernel_rfl
theorem gwsiz93 : ∀ w, (sizeOf 93).run Try.prog w = .ok 3 w := fun _ => by kernel_rfl
theorem gwzer50 : ∀ w, (zeroValue 50).run Try.prog w = .ok (.agg #[.slice none 0 0, .int .i64 0, .int .i64 0, .bool false]) w := fun _ => by kernel_rfl
theorem gwzer93 : ∀ w, (zeroValue 93).run Try.prog w = .ok (.agg #[.string (⟨#[]⟩ : ByteArray), .slice none 0 0, .int .i64 0]) w := fun _ => by kernel_rfl
set_option maxHeartbeats 4000000 in
set_option maxRecDepth 100000 in
theorem do_calls (P : Nat → Prop) (Af : Option Addr) (cf : Nat) (files : List S93) (d : PD) (kd : Int) (hkd : 1 ≤ kd ∧ kd ≤ 6) (nm dest : ByteArray) (n : Int) (Ay : Option Addr) (cy : Nat) (y : List Int) (w : World) (hP : ∀ k, P k → k < w.heap.size) (hF : Kd.F k93 w P Af files.length files) (hcf : files.length ≤ cf) (hA : ∀ ad, Af = some ad → P ad.block) (hlf : files.length ≤ 1000000) (hd : files.map ofS = d.fs) (hw : wfD d) (hy : Kd.C (Kd.int .u8) w Ay y.length y) (hcy : y.length ≤ cy) (hroom : d.used + y.length ≤ 140737488355327) :
    Calls Try.prog 27 #[.agg #[.slice Af files.length cf, .int .i64 d.most, .int .i64 d.fuse, .bool d.down], .agg #[.int .i64 kd, .string nm, .string dest, .int .i64 n, .slice Ay y.length cy]] w fun e w' => DoPost P w w' e (doesD kd nm dest n y d) := by
 have hus : (((files.map fun x => x.f1.length).sum : Nat) : Int) = d.used := by rw [← used_of, hd, hw.used]; rfl
 have hm0 := hw.most
 have hu0 := hw.used
 have hfu := hw.fuse
 refine gw_start (N := 186) (vs := [.agg #[.slice Af files.length cf, J d.most, J d.fuse, .bool d.down], .agg #[J kd, .string nm, .string dest, J n, .slice Ay y.length cy]]) Try.func27 rfl rfl (by simp) fun a HF HO => ?_
 replace HO : Own w w [] := HO
 rcases find3 nm z93 files with ⟨hfi, hgd⟩ | ⟨i0, hfi, hi0, hgd⟩
 ·
  rw [hd] at hgd
  refine gw_seq fun K1 hK1 => ?_
  refine wp_region_lit ?_
  refine gw_new HF HO (want_none rfl) rfl (by decide) (op_box rfl (HF.ev rfl)) ?_
  intro g2 _ w4 H5 O6; clear HF HO
  have O7 : Own w w4 [Bk g2 [.slice Af files.length cf, J d.most, J d.fuse, .bool d.down] 50] := O6
  clear O6
  refine gw_new H5 O7 (want_none rfl) rfl (by decide) (op_box rfl (H5.ev rfl)) ?_
  intro g8 _ w10 H11 O12; clear H5 O7
  have O13 : Own w w10 [Bk g8 [J kd, .string nm, .string dest, J n, .slice Ay y.length cy] 55, Bk g2 [.slice Af files.length cf, J d.most, J d.fuse, .bool d.down] 50] := O12
  clear O12
  refine gw_new H11 O13 (want_none rfl) rfl (by decide) (op_alloc gwzer50 rfl) ?_
  intro g14 _ w16 H17 O18; clear H11 O13
  have O19 : Own w w16 [Bk g14 [.slice none 0 0, J 0, J 0, .bool false] 50, Bk g8 [J kd, .string nm, .string dest, J n, .slice Ay y.length cy] 55, Bk g2 [.slice Af files.length cf, J d.most, J d.fuse, .bool d.down] 50] := O18
  clear O18
  refine V H17 (op_assign rfl (ev_c _ _)) ?_
  intro _ H21; clear H17
  refine wpList_nil ?_
  refine gw_nx (hK1 _ _ ?_)
  refine gw_seq fun K22 hK22 => ?_
  refine gw_seq fun K23 hK23 => ?_
  refine wp_region_lit ?_
  refine V H21 (op_field (gwfld50_3 _ _) rfl (H21.ev rfl)) ?_
  intro _ H25; clear H21
  refine V H25 (op_load1 gwagg4 rfl (H25.ev rfl) (blk_at (O19.get 2 rfl) rfl)) ?_
  intro _ H27; clear H25
  refine wpList_nil ?_
  refine gw_nx (hK23 _ _ ?_)
  refine gw_cond H27 rfl (fun hb28 => ?_) (fun hb28 => ?_)
  ·
   have H29 := H27.subst_ (d := 12) (b := true) rfl hb28
   clear H27
   (try simp only [Bool.and_eq_true, Bool.or_eq_true, Bool.and_eq_false_iff, Bool.or_eq_false_iff, Bool.not_and, Bool.not_or, Bool.not_not, decide_eq_true_eq, decide_eq_false_iff_not, Bool.not_eq_true', Bool.not_eq_false', Bool.not_eq_true, Bool.not_eq_false, ne_eq, Decidable.not_not, Int.not_lt, Int.not_le, not_true_eq_false, not_false_eq_true, bne_iff_ne, beq_iff_eq, bne_eq_false_iff_eq, beq_eq_false_iff_ne] at hb28)
   have hdn := hb28
   refine gw_seq fun K30 hK30 => ?_
   refine wp_region_lit ?_
   refine V H29 (op_loadn gwagg50 gwsiz50 rfl (H29.ev rfl) (O19.get 2 rfl) rfl rfl) ?_
   intro _ H32; clear H29
   refine gw_setn 0 H32 O19 rfl (want_none rfl) rfl (op_storen gwsiz50 rfl (H32.ev rfl) (H32.ev rfl) (O19.get 0 rfl) rfl (by simp) (by simp [Value.oneCell'])) ?_
   intro _ w35 H34 O36; clear H32 O19
   have O37 : Own w w35 [Bk g14 [.slice Af files.length cf, J d.most, J d.fuse, .bool d.down] 50, Bk g8 [J kd, .string nm, .string dest, J n, .slice Ay y.length cy] 55, Bk g2 [.slice Af files.length cf, J d.most, J d.fuse, .bool d.down] 50] := O36
   clear O36
   refine V H34 (op_assign rfl (ev_c _ _)) ?_
   intro _ H39; clear H34
   refine wpList_nil ?_
   refine gw_nx (hK30 _ _ ?_)
   refine wp_ret ?_
   refine gw_thr ?_
   refine gw_rets2 H39 rfl (rv_celln H39 rfl gwagg50 gwsiz50 (O37.get 0 rfl) rfl) (rv_tmp H39 rfl) ?_
   exact do_same hP (does_down hdn) hd hF hcf hA O37.below
  ·
   have H40 := H27.subst_ (d := 12) (b := false) rfl hb28
   clear H27
   (try simp only [Bool.and_eq_true, Bool.or_eq_true, Bool.and_eq_false_iff, Bool.or_eq_false_iff, Bool.not_and, Bool.not_or, Bool.not_not, decide_eq_true_eq, decide_eq_false_iff_not, Bool.not_eq_true', Bool.not_eq_false', Bool.not_eq_true, Bool.not_eq_false, ne_eq, Decidable.not_not, Int.not_lt, Int.not_le, not_true_eq_false, not_false_eq_true, bne_iff_ne, beq_iff_eq, bne_eq_false_iff_eq, beq_eq_false_iff_ne] at hb28)
   have hdn : d.down = false := by simpa using hb28
   refine wp_skip ?_
   refine gw_nx (hK22 _ _ ?_)
   refine gw_seq fun K41 hK41 => ?_
   refine wp_region_lit ?_
   refine V H40 (op_loadn gwagg50 gwsiz50 rfl (H40.ev rfl) (O19.get 2 rfl) rfl rfl) ?_
   intro _ H43; clear H40
   refine V H43 (op_field (gwfld55_1 _ _) rfl (H43.ev rfl)) ?_
   intro _ H45; clear H43
   refine V H45 (op_load1 gwagg9 rfl (H45.ev rfl) (blk_at (O19.get 1 rfl) rfl)) ?_
   intro _ H47; clear H45
   refine gw_call H47 (want_none rfl) rfl (by decide) (op_callL Try.func52 (by kernel_rfl) rfl rfl (ar_cons (H47.ev rfl) (ar_cons (H47.ev rfl) ar_nil))) (find_ref Af cf files d.most d.fuse d.down nm _ (Kd.C_below (Kd.F_now hF) O19.below) hcf hlf) ?_
   rintro e48 w49 ⟨rfl, hb50⟩
   refine ⟨_, rfl, fun _ H52 => ?_⟩
   have O53 := O19.after hb50
   clear H47 O19 hb50
   have H55 := H52.conv (v' := J (-1)) (congrArg (Value.int .i64) hfi)
   clear H52
   refine V H55 (op_assign rfl (H55.ev rfl)) ?_
   intro _ H57; clear H55
   refine wpList_nil ?_
   refine gw_nx (hK41 _ _ ?_)
   refine gw_seq fun K58 hK58 => ?_
   refine gw_seq fun K59 hK59 => ?_
   refine wp_region_lit ?_
   refine V H57 (op_field (gwfld55_0 _ _) rfl (H57.ev rfl)) ?_
   intro _ H61; clear H57
   refine V H61 (op_load1 gwagg3 rfl (H61.ev rfl) (blk_at (O53.get 1 rfl) rfl)) ?_
   intro _ H63; clear H61
   refine V H63 (op_eqi rfl (H63.ev rfl) (ev_c _ _)) ?_
   intro _ H65; clear H63
   refine V H65 (op_move rfl (H65.ev rfl)) ?_
   intro _ H67; clear H65
   refine gw_evG H67 rfl rfl rfl rfl (on_t _) rfl (by decide) (fun h_ => (op_field (gwfld55_1 _ _) rfl (H67.ev rfl))) ?_
   intro _ H69; clear H67
   refine gw_evG H69 rfl rfl rfl rfl (on_t _) rfl (by decide) (fun h_ => (op_load1 gwagg9 rfl (ev_gv (H69.ev rfl) h_) (blk_at (O53.get 1 rfl) rfl))) ?_
   intro _ H71; clear H69
   refine gw_callG H71 rfl rfl rfl rfl (on_t _) rfl (by decide) (fun h_ => (op_callL Try.func53 (by kernel_rfl) rfl rfl (ar_cons (ev_gv (H71.ev rfl) h_) ar_nil))) (fun h_ => named_ref nm _) ?_
   intro _ w74 hb75 H73
   have O76 := O53.after hb75; clear H71 O53 hb75
   refine gw_evG H73 rfl rfl rfl rfl (on_t _) rfl (by decide) (fun h_ => (op_not rfl (ev_gv (H73.ev rfl) h_))) ?_
   intro _ H78; clear H73
   refine V H78 (op_pick_and rfl (H78.ev rfl) (fun hp_ => (ev_gv (H78.ev rfl) hp_)) (ev_c _ _)) ?_
   intro _ H80; clear H78
   refine V H80 (op_move rfl (H80.ev rfl)) ?_
   intro _ H82; clear H80
   refine gw_evG H82 rfl rfl rfl rfl (on_f _) rfl (by decide) (fun h_ => (op_field (gwfld55_0 _ _) rfl (H82.ev rfl))) ?_
   intro _ H84; clear H82
   refine gw_evG H84 rfl rfl rfl rfl (on_f _) rfl (by decide) (fun h_ => (op_load1 gwagg3 rfl (ev_gv (H84.ev rfl) h_) (blk_at (O76.get 1 rfl) rfl))) ?_
   intro _ H86; clear H84
   refine gw_evG H86 rfl rfl rfl rfl (on_f _) rfl (by decide) (fun h_ => (op_eqi rfl (ev_gv (H86.ev rfl) h_) (ev_c _ _))) ?_
   intro _ H88; clear H86
   refine gw_evG H88 rfl rfl rfl rfl (on_f _) rfl (by decide) (fun h_ => (op_move rfl (ev_gv (H88.ev rfl) h_))) ?_
   intro _ H90; clear H88
   refine gw_evG H90 rfl rfl rfl rfl (on_gt _ _) rfl (by decide) (fun h_ => (op_field (gwfld55_2 _ _) rfl (H90.ev rfl))) ?_
   intro _ H92; clear H90
   refine gw_evG H92 rfl rfl rfl rfl (on_gt _ _) rfl (by decide) (fun h_ => (op_load1 gwagg9 rfl (ev_gv (H92.ev rfl) (andi (and1 h_) (and2 h_))) (blk_at (O76.get 1 rfl) rfl))) ?_
   intro _ H94; clear H92
   refine gw_callG H94 rfl rfl rfl rfl (on_gt _ _) rfl (by decide) (fun h_ => (op_callL Try.func53 (by kernel_rfl) rfl rfl (ar_cons (ev_gv (H94.ev rfl) (andi (and1 h_) (and2 h_))) ar_nil))) (fun h_ => named_ref dest _) ?_
   intro _ w97 hb98 H96
   have O99 := O76.after hb98; clear H94 O76 hb98
   refine gw_evG H96 rfl rfl rfl rfl (on_gt _ _) rfl (by decide) (fun h_ => (op_not rfl (ev_gv (H96.ev rfl) (andi (and1 h_) (and2 h_))))) ?_
   intro _ H101; clear H96
   refine gw_evG H101 rfl rfl rfl rfl (on_f _) rfl (by decide) (fun h_ => (op_pick_and rfl (ev_gv (H101.ev rfl) h_) (fun hp_ => (ev_gv (H101.ev rfl) (andi h_ hp_))) (ev_c _ _))) ?_
   intro _ H103; clear H101
   refine V H103 (op_pick_or rfl (H103.ev rfl) (ev_c _ _) (fun hp_ => (ev_gv (H103.ev rfl) (not_t hp_)))) ?_
   intro _ H105; clear H103
   refine wpList_nil ?_
   refine gw_nx (hK59 _ _ ?_)
   refine gw_cond H105 rfl (fun hb106 => ?_) (fun hb106 => ?_)
   ·
    have H107 := H105.subst_ (d := 37) (b := true) rfl hb106
    clear H105
    (try simp only [Bool.and_eq_true, Bool.or_eq_true, Bool.and_eq_false_iff, Bool.or_eq_false_iff, Bool.not_and, Bool.not_or, Bool.not_not, decide_eq_true_eq, decide_eq_false_iff_not, Bool.not_eq_true', Bool.not_eq_false', Bool.not_eq_true, Bool.not_eq_false, ne_eq, Decidable.not_not, Int.not_lt, Int.not_le, not_true_eq_false, not_false_eq_true, bne_iff_ne, beq_iff_eq, bne_eq_false_iff_eq, beq_eq_false_iff_ne] at hb106)
    have h37 := hb106
    refine gw_seq fun K108 hK108 => ?_
    refine wp_region_lit ?_
    refine V H107 (op_loadn gwagg50 gwsiz50 rfl (H107.ev rfl) (O99.get 2 rfl) rfl rfl) ?_
    intro _ H110; clear H107
    refine gw_setn 0 H110 O99 rfl (want_none rfl) rfl (op_storen gwsiz50 rfl (H110.ev rfl) (H110.ev rfl) (O99.get 0 rfl) rfl (by simp) (by simp [Value.oneCell'])) ?_
    intro _ w113 H112 O114; clear H110 O99
    have O115 : Own w w113 [Bk g14 [.slice Af files.length cf, J d.most, J d.fuse, .bool d.down] 50, Bk g8 [J kd, .string nm, .string dest, J n, .slice Ay y.length cy] 55, Bk g2 [.slice Af files.length cf, J d.most, J d.fuse, .bool d.down] 50] := O114
    clear O114
    refine V H112 (op_assign rfl (ev_c _ _)) ?_
    intro _ H117; clear H112
    refine wpList_nil ?_
    refine gw_nx (hK108 _ _ ?_)
    refine wp_ret ?_
    refine gw_thr ?_
    refine gw_rets2 H117 rfl (rv_celln H117 rfl gwagg50 gwsiz50 (O115.get 0 rfl) rfl) (rv_tmp H117 rfl) ?_
    exact do_same hP (does_bad hdn h37) hd hF hcf hA O115.below
   ·
    have H118 := H105.subst_ (d := 37) (b := false) rfl hb106
    clear H105
    (try simp only [Bool.and_eq_true, Bool.or_eq_true, Bool.and_eq_false_iff, Bool.or_eq_false_iff, Bool.not_and, Bool.not_or, Bool.not_not, decide_eq_true_eq, decide_eq_false_iff_not, Bool.not_eq_true', Bool.not_eq_false', Bool.not_eq_true, Bool.not_eq_false, ne_eq, Decidable.not_not, Int.not_lt, Int.not_le, not_true_eq_false, not_false_eq_true, bne_iff_ne, beq_iff_eq, bne_eq_false_iff_eq, beq_eq_false_iff_ne] at hb106)
    have h37 := hb106
    have hn1 : kd = 1 → namedB nm = true := fun h_ => by simp only [h_] at h37; simpa using h37
    have hn4 : kd = 4 → namedB dest = true := fun h_ => by simp only [h_] at h37; simpa using h37
    refine wp_skip ?_
    refine gw_nx (hK58 _ _ ?_)
    refine gw_seq fun K119 hK119 => ?_
    refine gw_seq fun K120 hK120 => ?_
    refine wp_region_lit ?_
    refine V H118 (op_field (gwfld55_0 _ _) rfl (H118.ev rfl)) ?_
    intro _ H122; clear H118
    refine V H122 (op_load1 gwagg3 rfl (H122.ev rfl) (blk_at (O99.get 1 rfl) rfl)) ?_
    intro _ H124; clear H122
    refine V H124 (op_eqi rfl (H124.ev rfl) (ev_c _ _)) ?_
    intro _ H126; clear H124
    refine V H126 (op_move rfl (H126.ev rfl)) ?_
    intro _ H128; clear H126
    refine gw_evG H128 rfl rfl rfl rfl (on_t _) rfl (by decide) (fun h_ => (op_move rfl (H128.ev rfl))) ?_
    intro _ H130; clear H128
    refine gw_evG H130 rfl rfl rfl rfl (on_t _) rfl (by decide) (fun h_ => (op_geq rfl (ev_gv (H130.ev rfl) h_) (ev_c _ _))) ?_
    intro _ H132; clear H130
    have H133 := H132.litG (b := false) (fun h_ => by decide)
    clear H132
    refine V H133 (op_pick_and rfl (H133.ev rfl) (fun hp_ => (ev_gv (H133.ev rfl) hp_)) (ev_c _ _)) ?_
    intro _ H135; clear H133
    have H136 := H135.lit (b := false) (by simp)
    clear H135
    refine wpList_nil ?_
    refine gw_nx (hK120 _ _ ?_)
    refine gw_cond H136 rfl (fun hb137 => ?_) (fun hb137 => ?_)
    skip
    ·
     cases hb137
    refine wp_skip ?_
    refine gw_nx (hK119 _ _ ?_)
    refine gw_seq fun K138 hK138 => ?_
    refine gw_seq fun K139 hK139 => ?_
    refine wp_region_lit ?_
    refine V H136 (op_field (gwfld55_0 _ _) rfl (H136.ev rfl)) ?_
    intro _ H141; clear H136
    refine V H141 (op_load1 gwagg3 rfl (H141.ev rfl) (blk_at (O99.get 1 rfl) rfl)) ?_
    intro _ H143; clear H141
    refine V H143 (op_nei rfl (H143.ev rfl) (ev_c _ _)) ?_
    intro _ H145; clear H143
    refine V H145 (op_move rfl (H145.ev rfl)) ?_
    intro _ H147; clear H145
    refine gw_evG H147 rfl rfl rfl rfl (on_t _) rfl (by decide) (fun h_ => (op_move rfl (H147.ev rfl))) ?_
    intro _ H149; clear H147
    refine gw_evG H149 rfl rfl rfl rfl (on_t _) rfl (by decide) (fun h_ => (op_lss rfl (ev_gv (H149.ev rfl) h_) (ev_c _ _))) ?_
    intro _ H151; clear H149
    have H152 := H151.litG (b := true) (fun h_ => by decide)
    clear H151
    refine V H152 (op_pick_and rfl (H152.ev rfl) (fun hp_ => (ev_gv (H152.ev rfl) hp_)) (ev_c _ _)) ?_
    intro _ H154; clear H152
    refine wpList_nil ?_
    refine gw_nx (hK139 _ _ ?_)
    refine gw_cond H154 rfl (fun hb155 => ?_) (fun hb155 => ?_)
    ·
     have H156 := H154.subst_ (d := 53) (b := true) rfl hb155
     clear H154
     (try simp only [Bool.and_eq_true, Bool.or_eq_true, Bool.and_eq_false_iff, Bool.or_eq_false_iff, Bool.not_and, Bool.not_or, Bool.not_not, decide_eq_true_eq, decide_eq_false_iff_not, Bool.not_eq_true', Bool.not_eq_false', Bool.not_eq_true, Bool.not_eq_false, ne_eq, Decidable.not_not, Int.not_lt, Int.not_le, not_true_eq_false, not_false_eq_true, bne_iff_ne, beq_iff_eq, bne_eq_false_iff_eq, beq_eq_false_iff_ne] at hb155)
     have hk1 : ¬ kd = 1 := by simpa using hb155
     refine gw_seq fun K157 hK157 => ?_
     refine wp_region_lit ?_
     refine V H156 (op_loadn gwagg50 gwsiz50 rfl (H156.ev rfl) (O99.get 2 rfl) rfl rfl) ?_
     intro _ H159; clear H156
     refine gw_setn 0 H159 O99 rfl (want_none rfl) rfl (op_storen gwsiz50 rfl (H159.ev rfl) (H159.ev rfl) (O99.get 0 rfl) rfl (by simp) (by simp [Value.oneCell'])) ?_
     intro _ w162 H161 O163; clear H159 O99
     have O164 : Own w w162 [Bk g14 [.slice Af files.length cf, J d.most, J d.fuse, .bool d.down] 50, Bk g8 [J kd, .string nm, .string dest, J n, .slice Ay y.length cy] 55, Bk g2 [.slice Af files.length cf, J d.most, J d.fuse, .bool d.down] 50] := O163
     clear O163
     refine V H161 (op_assign rfl (ev_c _ _)) ?_
     intro _ H166; clear H161
     refine wpList_nil ?_
     refine gw_nx (hK157 _ _ ?_)
     refine wp_ret ?_
     refine gw_thr ?_
     refine gw_rets2 H166 rfl (rv_celln H166 rfl gwagg50 gwsiz50 (O164.get 0 rfl) rfl) (rv_tmp H166 rfl) ?_
     exact do_same hP (does_none hdn (by omega) hn4 hgd) hd hF hcf hA O164.below
    ·
     have H167 := H154.subst_ (d := 53) (b := false) rfl hb155
     clear H154
     (try simp only [Bool.and_eq_true, Bool.or_eq_true, Bool.and_eq_false_iff, Bool.or_eq_false_iff, Bool.not_and, Bool.not_or, Bool.not_not, decide_eq_true_eq, decide_eq_false_iff_not, Bool.not_eq_true', Bool.not_eq_false', Bool.not_eq_true, Bool.not_eq_false, ne_eq, Decidable.not_not, Int.not_lt, Int.not_le, not_true_eq_false, not_false_eq_true, bne_iff_ne, beq_iff_eq, bne_eq_false_iff_eq, beq_eq_false_iff_ne] at hb155)
     have hk1 : kd = 1 := by simpa using hb155
     refine wp_skip ?_
     refine gw_nx (hK138 _ _ ?_)
     refine gw_seq fun K168 hK168 => ?_
     refine wp_region_lit ?_
     refine V H167 (op_field (gwfld55_1 _ _) rfl (H167.ev rfl)) ?_
     intro _ H170; clear H167
     refine V H170 (op_load1 gwagg9 rfl (H170.ev rfl) (blk_at (O99.get 1 rfl) rfl)) ?_
     intro _ H172; clear H170
     refine V H172 (op_build (cells := #[.string nm, .slice none 0 0, J 0]) rfl (pt_cons (H172.ev rfl) pt_nil) (by kernel_rfl)) ?_
     intro _ H174; clear H172
     refine gw_new H174 O99 (want_none rfl) rfl (by decide) (op_alloc gwzer93 rfl) ?_
     intro g175 _ w177 H178 O179; clear H174 O99
     have O180 : Own w w177 [Bk g175 [.string (⟨#[]⟩ : ByteArray), .slice none 0 0, J 0] 93, Bk g14 [.slice none 0 0, J 0, J 0, .bool false] 50, Bk g8 [J kd, .string nm, .string dest, J n, .slice Ay y.length cy] 55, Bk g2 [.slice Af files.length cf, J d.most, J d.fuse, .bool d.down] 50] := O179
     clear O179
     refine gw_setn 0 H178 O180 rfl (want_none rfl) rfl (op_storen gwsiz93 rfl (H178.ev rfl) (H178.ev rfl) (O180.get 0 rfl) rfl (by simp) (by simp [Value.oneCell'])) ?_
     intro _ w183 H182 O184; clear H178 O180
     have O185 : Own w w183 [Bk g175 [.string nm, .slice none 0 0, J 0] 93, Bk g14 [.slice none 0 0, J 0, J 0, .bool false] 50, Bk g8 [J kd, .string nm, .string dest, J n, .slice Ay y.length cy] 55, Bk g2 [.slice Af files.length cf, J d.most, J d.fuse, .bool d.down] 50] := O184
     clear O184
     refine wpList_nil ?_
     refine gw_nx (hK168 _ _ ?_)
     refine gw_seq fun K186 hK186 => ?_
     refine gw_seq fun K187 hK187 => ?_
     refine wp_region_lit ?_
     refine V H182 (op_move rfl (H182.ev rfl)) ?_
     intro _ H189; clear H182
     refine V H189 (op_geq rfl (H189.ev rfl) (ev_c _ _)) ?_
     intro _ H191; clear H189
     have H192 := H191.lit (b := false) (by decide)
     clear H191
     refine wpList_nil ?_
     refine gw_nx (hK187 _ _ ?_)
     refine gw_cond H192 rfl (fun hb193 => ?_) (fun hb193 => ?_)
     skip
     ·
      cases hb193
     refine wp_skip ?_
     refine gw_nx (hK186 _ _ ?_)
     refine gw_seq fun K194 hK194 => ?_
     refine gw_seq fun K195 hK195 => ?_
     refine wp_region_lit ?_
     refine V H192 (op_field (gwfld55_0 _ _) rfl (H192.ev rfl)) ?_
     intro _ H197; clear H192
     refine V H197 (op_load1 gwagg3 rfl (H197.ev rfl) (blk_at (O185.get 2 rfl) rfl)) ?_
     intro _ H199; clear H197
     refine V H199 (op_eqi rfl (H199.ev rfl) (ev_c _ _)) ?_
     intro _ H201; clear H199
     refine V H201 (op_move rfl (H201.ev rfl)) ?_
     intro _ H203; clear H201
     refine gw_evG H203 rfl rfl rfl rfl (on_t _) rfl (by decide) (fun h_ => (op_field (gwfld55_3 _ _) rfl (H203.ev rfl))) ?_
     intro _ H205; clear H203
     refine gw_evG H205 rfl rfl rfl rfl (on_t _) rfl (by decide) (fun h_ => (op_load1 gwagg3 rfl (ev_gv (H205.ev rfl) h_) (blk_at (O185.get 2 rfl) rfl))) ?_
     intro _ H207; clear H205
     refine gw_evG H207 rfl rfl rfl rfl (on_t _) rfl (by decide) (fun h_ => (op_lss rfl (ev_gv (H207.ev rfl) h_) (ev_c _ _))) ?_
     intro _ H209; clear H207
     refine gw_evG H209 rfl rfl rfl rfl (on_t _) rfl (by decide) (fun h_ => (op_move rfl (ev_gv (H209.ev rfl) h_))) ?_
     intro _ H211; clear H209
     refine gw_evG H211 rfl rfl rfl rfl (on_gf _ _) rfl (by decide) (fun h_ => (op_field (gwfld55_3 _ _) rfl (H211.ev rfl))) ?_
     intro _ H213; clear H211
     refine gw_evG H213 rfl rfl rfl rfl (on_gf _ _) rfl (by decide) (fun h_ => (op_load1 gwagg3 rfl (ev_gv (H213.ev rfl) (andi (and1 h_) (and2 h_))) (blk_at (O185.get 2 rfl) rfl))) ?_
     intro _ H215; clear H213
     refine gw_evG H215 rfl rfl rfl rfl (on_gf _ _) rfl (by decide) (fun h_ => (op_field (gwfld93_1 _ _) rfl (H215.ev rfl))) ?_
     intro _ H217; clear H215
     refine gw_evG H217 rfl rfl rfl rfl (on_gf _ _) rfl (by decide) (fun h_ => (op_load1 gwagg28 rfl (ev_gv (H217.ev rfl) (andi (and1 h_) (and2 h_))) (blk_at (O185.get 0 rfl) rfl))) ?_
     intro _ H219; clear H217
     refine gw_evG H219 rfl rfl rfl rfl (on_gf _ _) rfl (by decide) (fun h_ => (op_len Try.underlying28 rfl (ev_gv (H219.ev rfl) (andi (and1 h_) (and2 h_))))) ?_
     intro _ H221; clear H219
     refine gw_evG H221 rfl rfl rfl rfl (on_gf _ _) rfl (by decide) (fun h_ => (op_gtr rfl (ev_gv (H221.ev rfl) (andi (and1 h_) (and2 h_))) (ev_gv (H221.ev rfl) (andi (and1 h_) (and2 h_))))) ?_
     intro _ H223; clear H221
     refine gw_evG H223 rfl rfl rfl rfl (on_t _) rfl (by decide) (fun h_ => (op_pick_or rfl (ev_gv (H223.ev rfl) h_) (ev_c _ _) (fun hp_ => (ev_gv (H223.ev rfl) (andi h_ (not_t hp_)))))) ?_
     intro _ H225; clear H223
     refine V H225 (op_pick_and rfl (H225.ev rfl) (fun hp_ => (ev_gv (H225.ev rfl) hp_)) (ev_c _ _)) ?_
     intro _ H227; clear H225
     refine wpList_nil ?_
     refine gw_nx (hK195 _ _ ?_)
     refine gw_cond H227 rfl (fun hb228 => ?_) (fun hb228 => ?_)
     ·
      have H229 := H227.subst_ (d := 80) (b := true) rfl hb228
      clear H227
      (try simp only [Bool.and_eq_true, Bool.or_eq_true, Bool.and_eq_false_iff, Bool.or_eq_false_iff, Bool.not_and, Bool.not_or, Bool.not_not, decide_eq_true_eq, decide_eq_false_iff_not, Bool.not_eq_true', Bool.not_eq_false', Bool.not_eq_true, Bool.not_eq_false, ne_eq, Decidable.not_not, Int.not_lt, Int.not_le, not_true_eq_false, not_false_eq_true, bne_iff_ne, beq_iff_eq, bne_eq_false_iff_eq, beq_eq_false_iff_ne] at hb228)
      exfalso; omega
     ·
      have H230 := H227.subst_ (d := 80) (b := false) rfl hb228
      clear H227
      (try simp only [Bool.and_eq_true, Bool.or_eq_true, Bool.and_eq_false_iff, Bool.or_eq_false_iff, Bool.not_and, Bool.not_or, Bool.not_not, decide_eq_true_eq, decide_eq_false_iff_not, Bool.not_eq_true', Bool.not_eq_false', Bool.not_eq_true, Bool.not_eq_false, ne_eq, Decidable.not_not, Int.not_lt, Int.not_le, not_true_eq_false, not_false_eq_true, bne_iff_ne, beq_iff_eq, bne_eq_false_iff_eq, beq_eq_false_iff_ne] at hb228)
      have h80 := hb228
      refine wp_skip ?_
      refine gw_nx (hK194 _ _ ?_)
      refine gw_seq fun K231 hK231 => ?_
      refine gw_seq fun K232 hK232 => ?_
      refine gw_drawB O185 (by kernel_rfl) (by kernel_rfl) fun w233 O234 => ?_
      clear O185
      refine gq_ev H230 (want_none rfl) rfl (by decide) (fun wq hq => have HO := O234.after hq; (op_field (gwfld55_0 _ _) rfl (H230.ev rfl))) ?_
      intro _ H236; clear H230
      refine gq_ev H236 (want_none rfl) rfl (by decide) (fun wq hq => have HO := O234.after hq; (op_load1 gwagg3 rfl (H236.ev rfl) (blk_at (HO.get 2 rfl) rfl))) ?_
      intro _ H238; clear H236
      refine gq_ev H238 (want_none rfl) rfl (by decide) (fun wq hq => have HO := O234.after hq; (op_eqi rfl (H238.ev rfl) (ev_c _ _))) ?_
      intro _ H240; clear H238
      refine gq_ev H240 (want_none rfl) rfl (by decide) (fun wq hq => have HO := O234.after hq; (op_move rfl (H240.ev rfl))) ?_
      intro _ H242; clear H240
      refine gq_evG H242 rfl rfl rfl rfl (on_t _) rfl (by decide) (fun h_ wq hq => have HO := O234.after hq; (op_field (gwfld55_4 _ _) rfl (H242.ev rfl))) ?_
      intro _ H244; clear H242
      refine gq_evG H244 rfl rfl rfl rfl (on_t _) rfl (by decide) (fun h_ wq hq => have HO := O234.after hq; (op_load1 gwagg28 rfl (ev_gv (H244.ev rfl) h_) (blk_at (HO.get 2 rfl) rfl))) ?_
      intro _ H246; clear H244
      refine gq_evG H246 rfl rfl rfl rfl (on_t _) rfl (by decide) (fun h_ wq hq => have HO := O234.after hq; (op_len Try.underlying28 rfl (ev_gv (H246.ev rfl) h_))) ?_
      intro _ H248; clear H246
      refine gq_evG H248 rfl rfl rfl rfl (on_t _) rfl (by decide) (fun h_ wq hq => have HO := O234.after hq; (op_field (gwfld50_1 _ _) rfl (H248.ev rfl))) ?_
      intro _ H250; clear H248
      refine gq_evG H250 rfl rfl rfl rfl (on_t _) rfl (by decide) (fun h_ wq hq => have HO := O234.after hq; (op_load1 gwagg3 rfl (ev_gv (H250.ev rfl) h_) (blk_at (HO.get 3 rfl) rfl))) ?_
      intro _ H252; clear H250
      refine gq_evG H252 rfl rfl rfl rfl (on_t _) rfl (by decide) (fun h_ wq hq => have HO := O234.after hq; (op_loadn gwagg50 gwsiz50 rfl (H252.ev rfl) (HO.get 3 rfl) rfl rfl)) ?_
      intro _ H254; clear H252
      refine gq_callG H254 rfl rfl rfl rfl (on_t _) rfl (by decide) (fun h_ wq hq => have HO := O234.after hq; (op_callL Try.func54 (by kernel_rfl) rfl rfl (ar_cons (ev_gv (H254.ev rfl) h_) ar_nil))) (fun h_ wq hq => have HO := O234.after hq; (used_ref Af cf files d.most d.fuse d.down _ (Kd.C_below (Kd.F_now hF) HO.below) hcf hlf (by (try simp only [Bool.and_eq_true, Bool.or_eq_true, Bool.and_eq_false_iff, Bool.or_eq_false_iff, Bool.not_and, Bool.not_or, Bool.not_not, decide_eq_true_eq, decide_eq_false_iff_not, Bool.not_eq_true', Bool.not_eq_false', Bool.not_eq_true, Bool.not_eq_false, ne_eq, Decidable.not_not, Int.not_lt, Int.not_le, not_true_eq_false, not_false_eq_true, bne_iff_ne, beq_iff_eq, bne_eq_false_iff_eq, beq_eq_false_iff_ne] at h_); omega)).mono fun e w' h => ⟨h.1, below_then hq h.2⟩) ?_
      intro _ H256; clear H254
      have H257 := H256.conv (v' := gv (decide (kd = 2)) (J d.used)) (congrArg (gv _) (congrArg (Value.int .i64) hus))
      clear H256
      refine gq_evG H257 rfl rfl rfl rfl (on_t _) rfl (by decide) (fun h_ wq hq => have HO := O234.after hq; (op_sub rfl (ev_gv (H257.ev rfl) h_) (ev_gv (H257.ev rfl) h_) (by (try simp only [Bool.and_eq_true, Bool.or_eq_true, Bool.and_eq_false_iff, Bool.or_eq_false_iff, Bool.not_and, Bool.not_or, Bool.not_not, decide_eq_true_eq, decide_eq_false_iff_not, Bool.not_eq_true', Bool.not_eq_false', Bool.not_eq_true, Bool.not_eq_false, ne_eq, Decidable.not_not, Int.not_lt, Int.not_le, not_true_eq_false, not_false_eq_true, bne_iff_ne, beq_iff_eq, bne_eq_false_iff_eq, beq_eq_false_iff_ne] at h_); omega))) ?_
      intro _ H259; clear H257
      refine gq_evG H259 rfl rfl rfl rfl (on_t _) rfl (by decide) (fun h_ wq hq => have HO := O234.after hq; (op_gtr rfl (ev_gv (H259.ev rfl) h_) (ev_gv (H259.ev rfl) h_))) ?_
      intro _ H261; clear H259
      refine gq_ev H261 (want_none rfl) rfl (by decide) (fun wq hq => have HO := O234.after hq; (op_pick_and rfl (H261.ev rfl) (fun hp_ => (ev_gv (H261.ev rfl) hp_)) (ev_c _ _))) ?_
      intro _ H263; clear H261
      refine wpQuiet_nil ?_
      intro w264 hq
      have O265 := O234.after hq
      clear O234 hq
      refine gw_nx (hK232 _ _ ?_)
      refine gw_cond H263 rfl (fun hb266 => ?_) (fun hb266 => ?_)
      ·
       have H267 := H263.subst_ (d := 95) (b := true) rfl hb266
       clear H263
       (try simp only [Bool.and_eq_true, Bool.or_eq_true, Bool.and_eq_false_iff, Bool.or_eq_false_iff, Bool.not_and, Bool.not_or, Bool.not_not, decide_eq_true_eq, decide_eq_false_iff_not, Bool.not_eq_true', Bool.not_eq_false', Bool.not_eq_true, Bool.not_eq_false, ne_eq, Decidable.not_not, Int.not_lt, Int.not_le, not_true_eq_false, not_false_eq_true, bne_iff_ne, beq_iff_eq, bne_eq_false_iff_eq, beq_eq_false_iff_ne] at hb266)
       exfalso; omega
      ·
       have H268 := H263.subst_ (d := 95) (b := false) rfl hb266
       clear H263
       (try simp only [Bool.and_eq_true, Bool.or_eq_true, Bool.and_eq_false_iff, Bool.or_eq_false_iff, Bool.not_and, Bool.not_or, Bool.not_not, decide_eq_true_eq, decide_eq_false_iff_not, Bool.not_eq_true', Bool.not_eq_false', Bool.not_eq_true, Bool.not_eq_false, ne_eq, Decidable.not_not, Int.not_lt, Int.not_le, not_true_eq_false, not_false_eq_true, bne_iff_ne, beq_iff_eq, bne_eq_false_iff_eq, beq_eq_false_iff_ne] at hb266)
       have h95 := hb266
       refine wp_skip ?_
       refine gw_nx (hK231 _ _ ?_)
       refine gw_joinS (fun a_ w_ => ∃ (fu : Int), Fr 186 a_ [(2, .pointer (some ⟨g2, 0, none⟩)), (3, .pointer (some ⟨g8, 0, none⟩)), (4, .pointer (some ⟨g14, 0, none⟩)), (7, .pointer (some ⟨g175, 0, none⟩))] ∧ Own w w_ [Bk g175 [.string nm, .slice none 0 0, J 0] 93, Bk g14 [.slice none 0 0, J 0, J 0, .bool false] 50, Bk g8 [J kd, .string nm, .string dest, J n, .slice Ay y.length cy] 55, Bk g2 [.slice Af files.length cf, J d.most, J fu, .bool d.down] 50] ∧ (fu = decF d.fuse ∧ d.fuse ≠ 1)) ?_ ?_
       ·
        refine gw_seq fun K269 hK269 => ?_
        refine wp_region_lit ?_
        refine V H268 (op_field (gwfld50_2 _ _) rfl (H268.ev rfl)) ?_
        intro _ H271; clear H268
        refine V H271 (op_load1 gwagg3 rfl (H271.ev rfl) (blk_at (O265.get 3 rfl) rfl)) ?_
        intro _ H273; clear H271
        refine V H273 (op_gtr rfl (H273.ev rfl) (ev_c _ _)) ?_
        intro _ H275; clear H273
        refine wpList_nil ?_
        refine gw_nx (hK269 _ _ ?_)
        refine gw_cond H275 rfl (fun hb276 => ?_) (fun hb276 => ?_)
        ·
         have H277 := H275.subst_ (d := 99) (b := true) rfl hb276
         clear H275
         (try simp only [decide_eq_true_eq] at hb276)
         refine gw_seq fun K278 hK278 => ?_
         refine wp_region_lit ?_
         refine V H277 (op_field (gwfld50_2 _ _) rfl (H277.ev rfl)) ?_
         intro _ H280; clear H277
         refine V H280 (op_load1 gwagg3 rfl (H280.ev rfl) (blk_at (O265.get 3 rfl) rfl)) ?_
         intro _ H282; clear H280
         refine V H282 (op_sub rfl (H282.ev rfl) (ev_c _ _) (by omega)) ?_
         intro _ H284; clear H282
         refine V H284 (op_field (gwfld50_2 _ _) rfl (H284.ev rfl)) ?_
         intro _ H286; clear H284
         refine gw_set 3 H286 O265 rfl (want_none rfl) rfl (op_store1 gwsiz3 rfl (H286.ev rfl) (H286.ev rfl) rfl (blk_at (O265.get 3 rfl) rfl) (blkf (O265.get 3 rfl))) ?_
         intro _ w289 H288 O290; clear H286 O265
         have O291 : Own w w289 [Bk g175 [.string nm, .slice none 0 0, J 0] 93, Bk g14 [.slice none 0 0, J 0, J 0, .bool false] 50, Bk g8 [J kd, .string nm, .string dest, J n, .slice Ay y.length cy] 55, Bk g2 [.slice Af files.length cf, J d.most, J (d.fuse - 1), .bool d.down] 50] := O290
         clear O290
         refine wpList_nil ?_
         refine gw_nx (hK278 _ _ ?_)
         refine gw_seq fun K292 hK292 => ?_
         refine wp_region_lit ?_
         refine V H288 (op_field (gwfld50_2 _ _) rfl (H288.ev rfl)) ?_
         intro _ H294; clear H288
         refine V H294 (op_load1 gwagg3 rfl (H294.ev rfl) (blk_at (O291.get 3 rfl) rfl)) ?_
         intro _ H296; clear H294
         refine V H296 (op_eqi rfl (H296.ev rfl) (ev_c _ _)) ?_
         intro _ H298; clear H296
         refine wpList_nil ?_
         refine gw_nx (hK292 _ _ ?_)
         refine gw_cond H298 rfl (fun hb299 => ?_) (fun hb299 => ?_)
         ·
          have H300 := H298.subst_ (d := 106) (b := true) rfl hb299
          clear H298
          (try simp only [decide_eq_true_eq] at hb299)
          refine gw_seq fun K301 hK301 => ?_
          refine wp_region_lit ?_
          refine V H300 (op_field (gwfld50_3 _ _) rfl (H300.ev rfl)) ?_
          intro _ H303; clear H300
          refine gw_set 3 H303 O291 rfl (want_none rfl) rfl (op_store1 gwsiz4 rfl (H303.ev rfl) (ev_c _ _) rfl (blk_at (O291.get 3 rfl) rfl) (blkf (O291.get 3 rfl))) ?_
          intro _ w306 H305 O307; clear H303 O291
          have O308 : Own w w306 [Bk g175 [.string nm, .slice none 0 0, J 0] 93, Bk g14 [.slice none 0 0, J 0, J 0, .bool false] 50, Bk g8 [J kd, .string nm, .string dest, J n, .slice Ay y.length cy] 55, Bk g2 [.slice Af files.length cf, J d.most, J (d.fuse - 1), .bool true] 50] := O307
          clear O307
          refine wpList_nil ?_
          refine gw_nx (hK301 _ _ ?_)
          refine gw_seq fun K309 hK309 => ?_
          refine wp_region_lit ?_
          refine V H305 (op_loadn gwagg50 gwsiz50 rfl (H305.ev rfl) (O308.get 3 rfl) rfl rfl) ?_
          intro _ H311; clear H305
          refine gw_setn 1 H311 O308 rfl (want_none rfl) rfl (op_storen gwsiz50 rfl (H311.ev rfl) (H311.ev rfl) (O308.get 1 rfl) rfl (by simp) (by simp [Value.oneCell'])) ?_
          intro _ w314 H313 O315; clear H311 O308
          have O316 : Own w w314 [Bk g175 [.string nm, .slice none 0 0, J 0] 93, Bk g14 [.slice Af files.length cf, J d.most, J (d.fuse - 1), .bool true] 50, Bk g8 [J kd, .string nm, .string dest, J n, .slice Ay y.length cy] 55, Bk g2 [.slice Af files.length cf, J d.most, J (d.fuse - 1), .bool true] 50] := O315
          clear O315
          refine V H313 (op_assign rfl (ev_c _ _)) ?_
          intro _ H318; clear H313
          refine wpList_nil ?_
          refine gw_nx (hK309 _ _ ?_)
          refine wp_ret ?_
          refine gw_thr ?_
          refine gw_rets2 H318 rfl (rv_celln H318 rfl gwagg50 gwsiz50 (O316.get 1 rfl) rfl) (rv_tmp H318 rfl) ?_
          rw [show d.fuse - 1 = 0 by omega]
          exact do_same (d2 := { d with fuse := 0, down := true }) hP ((does_go (f := ⟨nm, [], 0⟩) hdn (.inl ⟨by omega, hn1 (by omega), hgd⟩)).trans (step_off (by omega))) hd hF hcf hA O316.below
         ·
          have H319 := H298.subst_ (d := 106) (b := false) rfl hb299
          clear H298
          (try simp only [decide_eq_false_iff_not] at hb299)
          refine wp_skip ?_
          refine gw_nx ⟨(d.fuse - 1), (H319.pick (t := 2) rfl (H319.pick (t := 3) rfl (H319.pick (t := 4) rfl (H319.pick (t := 7) rfl H319.nil)))), O291.sel [0, 1, 2, 3] (by decide), ?_⟩
          ·
           exact ⟨by unfold decF; split <;> omega, by omega⟩
        ·
         have H320 := H275.subst_ (d := 99) (b := false) rfl hb276
         clear H275
         (try simp only [decide_eq_false_iff_not, Int.not_lt] at hb276)
         refine wp_skip ?_
         refine gw_nx ⟨d.fuse, (H320.pick (t := 2) rfl (H320.pick (t := 3) rfl (H320.pick (t := 4) rfl (H320.pick (t := 7) rfl H320.nil)))), O265.sel [0, 1, 2, 3] (by decide), ?_⟩
         ·
          exact ⟨by unfold decF; split <;> omega, by omega⟩
       ·
        rintro _ w322 ⟨fu, H323, O324, hfud⟩
        refine gw_seq fun K325 hK325 => ?_
        refine gw_seq fun K326 hK326 => ?_
        refine wp_region_lit ?_
        refine V H323 (op_field (gwfld55_0 _ _) rfl (H323.ev rfl)) ?_
        intro _ H328; clear H323
        refine V H328 (op_load1 gwagg3 rfl (H328.ev rfl) (blk_at (O324.get 2 rfl) rfl)) ?_
        intro _ H330; clear H328
        refine wpList_nil ?_
        refine gw_nx (hK326 _ _ ?_)
        refine wp_block ?_
        refine gw_seq fun K331 hK331 => ?_
        refine wp_region_lit ?_
        refine V H330 (op_eqi rfl (H330.ev rfl) (ev_c _ _)) ?_
        intro _ H333; clear H330
        refine V H333 (op_assign rfl (H333.ev rfl)) ?_
        intro _ H335; clear H333
        refine wpList_nil ?_
        refine gw_nx (hK331 _ _ ?_)
        refine gw_cond H335 rfl (fun hb336 => ?_) (fun hb336 => ?_)
        ·
         have H337 := H335.subst_ (d := 111) (b := true) rfl hb336
         clear H335
         (try simp only [decide_eq_true_eq] at hb336)
         exfalso; omega
        ·
         have H338 := H335.subst_ (d := 111) (b := false) rfl hb336
         clear H335
         (try simp only [decide_eq_false_iff_not] at hb336)
         have hk2 := hb336
         refine gw_seq fun K339 hK339 => ?_
         refine wp_region_lit ?_
         refine V H338 (op_eqi rfl (H338.ev rfl) (ev_c _ _)) ?_
         intro _ H341; clear H338
         refine V H341 (op_assign rfl (H341.ev rfl)) ?_
         intro _ H343; clear H341
         refine wpList_nil ?_
         refine gw_nx (hK339 _ _ ?_)
         refine gw_cond H343 rfl (fun hb344 => ?_) (fun hb344 => ?_)
         ·
          have H345 := H343.subst_ (d := 146) (b := true) rfl hb344
          clear H343
          (try simp only [decide_eq_true_eq] at hb344)
          exfalso; omega
         ·
          have H346 := H343.subst_ (d := 146) (b := false) rfl hb344
          clear H343
          (try simp only [decide_eq_false_iff_not] at hb344)
          have hk3 := hb344
          refine gw_seq fun K347 hK347 => ?_
          refine wp_region_lit ?_
          refine V H346 (op_eqi rfl (H346.ev rfl) (ev_c _ _)) ?_
          intro _ H349; clear H346
          refine V H349 (op_assign rfl (H349.ev rfl)) ?_
          intro _ H351; clear H349
          refine wpList_nil ?_
          refine gw_nx (hK347 _ _ ?_)
          refine gw_cond H351 rfl (fun hb352 => ?_) (fun hb352 => ?_)
          ·
           have H353 := H351.subst_ (d := 152) (b := true) rfl hb352
           clear H351
           (try simp only [decide_eq_true_eq] at hb352)
           exfalso; omega
          ·
           have H354 := H351.subst_ (d := 152) (b := false) rfl hb352
           clear H351
           (try simp only [decide_eq_false_iff_not] at hb352)
           have hk4 := hb352
           refine gw_seq fun K355 hK355 => ?_
           refine wp_region_lit ?_
           refine V H354 (op_eqi rfl (H354.ev rfl) (ev_c _ _)) ?_
           intro _ H357; clear H354
           refine V H357 (op_assign rfl (H357.ev rfl)) ?_
           intro _ H359; clear H357
           refine wpList_nil ?_
           refine gw_nx (hK355 _ _ ?_)
           refine gw_cond H359 rfl (fun hb360 => ?_) (fun hb360 => ?_)
           ·
            have H361 := H359.subst_ (d := 161) (b := true) rfl hb360
            clear H359
            (try simp only [decide_eq_true_eq] at hb360)
            exfalso; omega
           ·
            have H362 := H359.subst_ (d := 161) (b := false) rfl hb360
            clear H359
            (try simp only [decide_eq_false_iff_not] at hb360)
            have hk5 := hb360
            refine gw_seq fun K363 hK363 => ?_
            refine wp_region_lit ?_
            refine V H362 (op_eqi rfl (H362.ev rfl) (ev_c _ _)) ?_
            intro _ H365; clear H362
            refine V H365 (op_assign rfl (H365.ev rfl)) ?_
            intro _ H367; clear H365
            refine wpList_nil ?_
            refine gw_nx (hK363 _ _ ?_)
            refine gw_cond H367 rfl (fun hb368 => ?_) (fun hb368 => ?_)
            ·
             have H369 := H367.subst_ (d := 177) (b := true) rfl hb368
             clear H367
             (try simp only [decide_eq_true_eq] at hb368)
             exfalso; omega
            ·
             have H370 := H367.subst_ (d := 177) (b := false) rfl hb368
             clear H367
             (try simp only [decide_eq_false_iff_not] at hb368)
             have hk6 := hb368
             refine wp_skip ?_
             refine gw_blk ?_
             refine gw_nx (hK325 _ _ ?_)
             refine gw_seq fun K371 hK371 => ?_
             refine wp_region_lit ?_
             refine V H370 (op_loadn gwagg50 gwsiz50 rfl (H370.ev rfl) (O324.get 3 rfl) rfl rfl) ?_
             intro _ H373; clear H370
             refine V H373 (op_loadn gwagg93 gwsiz93 rfl (H373.ev rfl) (O324.get 0 rfl) rfl rfl) ?_
             intro _ H375; clear H373
             have O379 := O324.void
             clear O324
             have O381 : Own w w322 [Chunk.void, Bk g175 [.string nm, .slice none 0 0, J 0] 93, Bk g14 [.slice none 0 0, J 0, J 0, .bool false] 50, Bk g8 [J kd, .string nm, .string dest, J n, .slice Ay y.length cy] 55, Bk g2 [.slice Af files.length cf, J d.most, J fu, .bool d.down] 50] := O379
             clear O379
             refine gw_call H375 (want_none rfl) rfl (by decide) (op_callL Try.func56 (by kernel_rfl) rfl rfl (ar_cons (H375.ev rfl) (ar_cons (H375.ev rfl) ar_nil))) (with_own Af cf files d.most fu d.down nm none 0 ([] : List Int) 0 hP 0 rfl O381 (F_up O381 hP hF _) hcf (Kd.F_nil _ _ _) (Nat.le_refl _) hlf) ?_
             rintro e382 w383 ⟨A376, c377, S378, rfl, hb384⟩
             refine ⟨_, rfl, fun _ H386 => ?_⟩
             have O387 := O381.calls 0 rfl hb384
             clear H375 O381 hb384
             have O389 : Own w w383 [Chunk.prow w P k93 93 w.heap.size S378 (.slice A376 ((withL (⟨nm, ([] : List Int), 0⟩ : S93) files false).length) c377) (withL (⟨nm, ([] : List Int), 0⟩ : S93) files false), Bk g175 [.string nm, .slice none 0 0, J 0] 93, Bk g14 [.slice none 0 0, J 0, J 0, .bool false] 50, Bk g8 [J kd, .string nm, .string dest, J n, .slice Ay y.length cy] 55, Bk g2 [.slice Af files.length cf, J d.most, J fu, .bool d.down] 50] := O387
             clear O387
             refine gw_setn 2 H386 O389 rfl (want_none rfl) rfl (op_storen gwsiz50 rfl (H386.ev rfl) (H386.ev rfl) (O389.get 2 rfl) rfl (by simp) (by simp [Value.oneCell'])) ?_
             intro _ w392 H391 O393; clear H386 O389
             have O394 : Own w w392 [Chunk.prow w P k93 93 w.heap.size S378 (.slice A376 ((withL (⟨nm, ([] : List Int), 0⟩ : S93) files false).length) c377) (withL (⟨nm, ([] : List Int), 0⟩ : S93) files false), Bk g175 [.string nm, .slice none 0 0, J 0] 93, Bk g14 [.slice A376 ((withL (⟨nm, ([] : List Int), 0⟩ : S93) files false).length) c377, J d.most, J fu, .bool d.down] 50, Bk g8 [J kd, .string nm, .string dest, J n, .slice Ay y.length cy] 55, Bk g2 [.slice Af files.length cf, J d.most, J fu, .bool d.down] 50] := O393
             clear O393
             refine V H391 (op_assign rfl (ev_c _ _)) ?_
             intro _ H396; clear H391
             refine wpList_nil ?_
             refine gw_nx (hK371 _ _ ?_)
             refine wp_ret ?_
             refine gw_rets2 H396 rfl (rv_celln H396 rfl gwagg50 gwsiz50 (O394.get 2 rfl) rfl) (rv_tmp H396 rfl) ?_
             have ef_ : fu = decF d.fuse := hfud.1
             rw [ef_]
             exact do_new hP (((does_go (f := ⟨nm, [], 0⟩) hdn (.inl ⟨by omega, hn1 (by omega), hgd⟩)).trans (step_on (by omega) hfu.1)).trans (congrArg (·, (0 : Int)) (ks1 (by omega)))) (by rw [withL_ins _ _ (by rw [hd]; exact hw.ris), hd]; rfl) O394 0 rfl
 ·
  rw [hd] at hgd
  have hxn : (files.getD i0.toNat z93).f0 = nm := (getF_mem hgd).2
  have hsf : 0 ≤ (files.getD i0.toNat z93).f2 ∧ (files.getD i0.toNat z93).f2 ≤ (files.getD i0.toNat z93).f1.length := hw.sf _ (getF_mem hgd).1
  have hxl : ((files.getD i0.toNat z93).f1.length : Int) ≤ d.used := wf_len hw (getF_mem hgd).1
  refine gw_seq fun K397 hK397 => ?_
  refine wp_region_lit ?_
  refine gw_new HF HO (want_none rfl) rfl (by decide) (op_box rfl (HF.ev rfl)) ?_
  intro g398 _ w400 H401 O402; clear HF HO
  have O403 : Own w w400 [Bk g398 [.slice Af files.length cf, J d.most, J d.fuse, .bool d.down] 50] := O402
  clear O402
  refine gw_new H401 O403 (want_none rfl) rfl (by decide) (op_box rfl (H401.ev rfl)) ?_
  intro g404 _ w406 H407 O408; clear H401 O403
  have O409 : Own w w406 [Bk g404 [J kd, .string nm, .string dest, J n, .slice Ay y.length cy] 55, Bk g398 [.slice Af files.length cf, J d.most, J d.fuse, .bool d.down] 50] := O408
  clear O408
  refine gw_new H407 O409 (want_none rfl) rfl (by decide) (op_alloc gwzer50 rfl) ?_
  intro g410 _ w412 H413 O414; clear H407 O409
  have O415 : Own w w412 [Bk g410 [.slice none 0 0, J 0, J 0, .bool false] 50, Bk g404 [J kd, .string nm, .string dest, J n, .slice Ay y.length cy] 55, Bk g398 [.slice Af files.length cf, J d.most, J d.fuse, .bool d.down] 50] := O414
  clear O414
  refine V H413 (op_assign rfl (ev_c _ _)) ?_
  intro _ H417; clear H413
  refine wpList_nil ?_
  refine gw_nx (hK397 _ _ ?_)
  refine gw_seq fun K418 hK418 => ?_
  refine gw_seq fun K419 hK419 => ?_
  refine wp_region_lit ?_
  refine V H417 (op_field (gwfld50_3 _ _) rfl (H417.ev rfl)) ?_
  intro _ H421; clear H417
  refine V H421 (op_load1 gwagg4 rfl (H421.ev rfl) (blk_at (O415.get 2 rfl) rfl)) ?_
  intro _ H423; clear H421
  refine wpList_nil ?_
  refine gw_nx (hK419 _ _ ?_)
  refine gw_cond H423 rfl (fun hb424 => ?_) (fun hb424 => ?_)
  ·
   have H425 := H423.subst_ (d := 12) (b := true) rfl hb424
   clear H423
   (try simp only [Bool.and_eq_true, Bool.or_eq_true, Bool.and_eq_false_iff, Bool.or_eq_false_iff, Bool.not_and, Bool.not_or, Bool.not_not, decide_eq_true_eq, decide_eq_false_iff_not, Bool.not_eq_true', Bool.not_eq_false', Bool.not_eq_true, Bool.not_eq_false, ne_eq, Decidable.not_not, Int.not_lt, Int.not_le, not_true_eq_false, not_false_eq_true, bne_iff_ne, beq_iff_eq, bne_eq_false_iff_eq, beq_eq_false_iff_ne] at hb424)
   have hdn := hb424
   refine gw_seq fun K426 hK426 => ?_
   refine wp_region_lit ?_
   refine V H425 (op_loadn gwagg50 gwsiz50 rfl (H425.ev rfl) (O415.get 2 rfl) rfl rfl) ?_
   intro _ H428; clear H425
   refine gw_setn 0 H428 O415 rfl (want_none rfl) rfl (op_storen gwsiz50 rfl (H428.ev rfl) (H428.ev rfl) (O415.get 0 rfl) rfl (by simp) (by simp [Value.oneCell'])) ?_
   intro _ w431 H430 O432; clear H428 O415
   have O433 : Own w w431 [Bk g410 [.slice Af files.length cf, J d.most, J d.fuse, .bool d.down] 50, Bk g404 [J kd, .string nm, .string dest, J n, .slice Ay y.length cy] 55, Bk g398 [.slice Af files.length cf, J d.most, J d.fuse, .bool d.down] 50] := O432
   clear O432
   refine V H430 (op_assign rfl (ev_c _ _)) ?_
   intro _ H435; clear H430
   refine wpList_nil ?_
   refine gw_nx (hK426 _ _ ?_)
   refine wp_ret ?_
   refine gw_thr ?_
   refine gw_rets2 H435 rfl (rv_celln H435 rfl gwagg50 gwsiz50 (O433.get 0 rfl) rfl) (rv_tmp H435 rfl) ?_
   exact do_same hP (does_down hdn) hd hF hcf hA O433.below
  ·
   have H436 := H423.subst_ (d := 12) (b := false) rfl hb424
   clear H423
   (try simp only [Bool.and_eq_true, Bool.or_eq_true, Bool.and_eq_false_iff, Bool.or_eq_false_iff, Bool.not_and, Bool.not_or, Bool.not_not, decide_eq_true_eq, decide_eq_false_iff_not, Bool.not_eq_true', Bool.not_eq_false', Bool.not_eq_true, Bool.not_eq_false, ne_eq, Decidable.not_not, Int.not_lt, Int.not_le, not_true_eq_false, not_false_eq_true, bne_iff_ne, beq_iff_eq, bne_eq_false_iff_eq, beq_eq_false_iff_ne] at hb424)
   have hdn : d.down = false := by simpa using hb424
   refine wp_skip ?_
   refine gw_nx (hK418 _ _ ?_)
   refine gw_seq fun K437 hK437 => ?_
   refine wp_region_lit ?_
   refine V H436 (op_loadn gwagg50 gwsiz50 rfl (H436.ev rfl) (O415.get 2 rfl) rfl rfl) ?_
   intro _ H439; clear H436
   refine V H439 (op_field (gwfld55_1 _ _) rfl (H439.ev rfl)) ?_
   intro _ H441; clear H439
   refine V H441 (op_load1 gwagg9 rfl (H441.ev rfl) (blk_at (O415.get 1 rfl) rfl)) ?_
   intro _ H443; clear H441
   refine gw_call H443 (want_none rfl) rfl (by decide) (op_callL Try.func52 (by kernel_rfl) rfl rfl (ar_cons (H443.ev rfl) (ar_cons (H443.ev rfl) ar_nil))) (find_ref Af cf files d.most d.fuse d.down nm _ (Kd.C_below (Kd.F_now hF) O415.below) hcf hlf) ?_
   rintro e444 w445 ⟨rfl, hb446⟩
   refine ⟨_, rfl, fun _ H448 => ?_⟩
   have O449 := O415.after hb446
   clear H443 O415 hb446
   have H451 := H448.conv (v' := J i0) (congrArg (Value.int .i64) hfi)
   clear H448
   refine V H451 (op_assign rfl (H451.ev rfl)) ?_
   intro _ H453; clear H451
   refine wpList_nil ?_
   refine gw_nx (hK437 _ _ ?_)
   refine gw_seq fun K454 hK454 => ?_
   refine gw_seq fun K455 hK455 => ?_
   refine wp_region_lit ?_
   refine V H453 (op_field (gwfld55_0 _ _) rfl (H453.ev rfl)) ?_
   intro _ H457; clear H453
   refine V H457 (op_load1 gwagg3 rfl (H457.ev rfl) (blk_at (O449.get 1 rfl) rfl)) ?_
   intro _ H459; clear H457
   refine V H459 (op_eqi rfl (H459.ev rfl) (ev_c _ _)) ?_
   intro _ H461; clear H459
   refine V H461 (op_move rfl (H461.ev rfl)) ?_
   intro _ H463; clear H461
   refine gw_evG H463 rfl rfl rfl rfl (on_t _) rfl (by decide) (fun h_ => (op_field (gwfld55_1 _ _) rfl (H463.ev rfl))) ?_
   intro _ H465; clear H463
   refine gw_evG H465 rfl rfl rfl rfl (on_t _) rfl (by decide) (fun h_ => (op_load1 gwagg9 rfl (ev_gv (H465.ev rfl) h_) (blk_at (O449.get 1 rfl) rfl))) ?_
   intro _ H467; clear H465
   refine gw_callG H467 rfl rfl rfl rfl (on_t _) rfl (by decide) (fun h_ => (op_callL Try.func53 (by kernel_rfl) rfl rfl (ar_cons (ev_gv (H467.ev rfl) h_) ar_nil))) (fun h_ => named_ref nm _) ?_
   intro _ w470 hb471 H469
   have O472 := O449.after hb471; clear H467 O449 hb471
   refine gw_evG H469 rfl rfl rfl rfl (on_t _) rfl (by decide) (fun h_ => (op_not rfl (ev_gv (H469.ev rfl) h_))) ?_
   intro _ H474; clear H469
   refine V H474 (op_pick_and rfl (H474.ev rfl) (fun hp_ => (ev_gv (H474.ev rfl) hp_)) (ev_c _ _)) ?_
   intro _ H476; clear H474
   refine V H476 (op_move rfl (H476.ev rfl)) ?_
   intro _ H478; clear H476
   refine gw_evG H478 rfl rfl rfl rfl (on_f _) rfl (by decide) (fun h_ => (op_field (gwfld55_0 _ _) rfl (H478.ev rfl))) ?_
   intro _ H480; clear H478
   refine gw_evG H480 rfl rfl rfl rfl (on_f _) rfl (by decide) (fun h_ => (op_load1 gwagg3 rfl (ev_gv (H480.ev rfl) h_) (blk_at (O472.get 1 rfl) rfl))) ?_
   intro _ H482; clear H480
   refine gw_evG H482 rfl rfl rfl rfl (on_f _) rfl (by decide) (fun h_ => (op_eqi rfl (ev_gv (H482.ev rfl) h_) (ev_c _ _))) ?_
   intro _ H484; clear H482
   refine gw_evG H484 rfl rfl rfl rfl (on_f _) rfl (by decide) (fun h_ => (op_move rfl (ev_gv (H484.ev rfl) h_))) ?_
   intro _ H486; clear H484
   refine gw_evG H486 rfl rfl rfl rfl (on_gt _ _) rfl (by decide) (fun h_ => (op_field (gwfld55_2 _ _) rfl (H486.ev rfl))) ?_
   intro _ H488; clear H486
   refine gw_evG H488 rfl rfl rfl rfl (on_gt _ _) rfl (by decide) (fun h_ => (op_load1 gwagg9 rfl (ev_gv (H488.ev rfl) (andi (and1 h_) (and2 h_))) (blk_at (O472.get 1 rfl) rfl))) ?_
   intro _ H490; clear H488
   refine gw_callG H490 rfl rfl rfl rfl (on_gt _ _) rfl (by decide) (fun h_ => (op_callL Try.func53 (by kernel_rfl) rfl rfl (ar_cons (ev_gv (H490.ev rfl) (andi (and1 h_) (and2 h_))) ar_nil))) (fun h_ => named_ref dest _) ?_
   intro _ w493 hb494 H492
   have O495 := O472.after hb494; clear H490 O472 hb494
   refine gw_evG H492 rfl rfl rfl rfl (on_gt _ _) rfl (by decide) (fun h_ => (op_not rfl (ev_gv (H492.ev rfl) (andi (and1 h_) (and2 h_))))) ?_
   intro _ H497; clear H492
   refine gw_evG H497 rfl rfl rfl rfl (on_f _) rfl (by decide) (fun h_ => (op_pick_and rfl (ev_gv (H497.ev rfl) h_) (fun hp_ => (ev_gv (H497.ev rfl) (andi h_ hp_))) (ev_c _ _))) ?_
   intro _ H499; clear H497
   refine V H499 (op_pick_or rfl (H499.ev rfl) (ev_c _ _) (fun hp_ => (ev_gv (H499.ev rfl) (not_t hp_)))) ?_
   intro _ H501; clear H499
   refine wpList_nil ?_
   refine gw_nx (hK455 _ _ ?_)
   refine gw_cond H501 rfl (fun hb502 => ?_) (fun hb502 => ?_)
   ·
    have H503 := H501.subst_ (d := 37) (b := true) rfl hb502
    clear H501
    (try simp only [Bool.and_eq_true, Bool.or_eq_true, Bool.and_eq_false_iff, Bool.or_eq_false_iff, Bool.not_and, Bool.not_or, Bool.not_not, decide_eq_true_eq, decide_eq_false_iff_not, Bool.not_eq_true', Bool.not_eq_false', Bool.not_eq_true, Bool.not_eq_false, ne_eq, Decidable.not_not, Int.not_lt, Int.not_le, not_true_eq_false, not_false_eq_true, bne_iff_ne, beq_iff_eq, bne_eq_false_iff_eq, beq_eq_false_iff_ne] at hb502)
    have h37 := hb502
    refine gw_seq fun K504 hK504 => ?_
    refine wp_region_lit ?_
    refine V H503 (op_loadn gwagg50 gwsiz50 rfl (H503.ev rfl) (O495.get 2 rfl) rfl rfl) ?_
    intro _ H506; clear H503
    refine gw_setn 0 H506 O495 rfl (want_none rfl) rfl (op_storen gwsiz50 rfl (H506.ev rfl) (H506.ev rfl) (O495.get 0 rfl) rfl (by simp) (by simp [Value.oneCell'])) ?_
    intro _ w509 H508 O510; clear H506 O495
    have O511 : Own w w509 [Bk g410 [.slice Af files.length cf, J d.most, J d.fuse, .bool d.down] 50, Bk g404 [J kd, .string nm, .string dest, J n, .slice Ay y.length cy] 55, Bk g398 [.slice Af files.length cf, J d.most, J d.fuse, .bool d.down] 50] := O510
    clear O510
    refine V H508 (op_assign rfl (ev_c _ _)) ?_
    intro _ H513; clear H508
    refine wpList_nil ?_
    refine gw_nx (hK504 _ _ ?_)
    refine wp_ret ?_
    refine gw_thr ?_
    refine gw_rets2 H513 rfl (rv_celln H513 rfl gwagg50 gwsiz50 (O511.get 0 rfl) rfl) (rv_tmp H513 rfl) ?_
    exact do_same hP (does_bad hdn h37) hd hF hcf hA O511.below
   ·
    have H514 := H501.subst_ (d := 37) (b := false) rfl hb502
    clear H501
    (try simp only [Bool.and_eq_true, Bool.or_eq_true, Bool.and_eq_false_iff, Bool.or_eq_false_iff, Bool.not_and, Bool.not_or, Bool.not_not, decide_eq_true_eq, decide_eq_false_iff_not, Bool.not_eq_true', Bool.not_eq_false', Bool.not_eq_true, Bool.not_eq_false, ne_eq, Decidable.not_not, Int.not_lt, Int.not_le, not_true_eq_false, not_false_eq_true, bne_iff_ne, beq_iff_eq, bne_eq_false_iff_eq, beq_eq_false_iff_ne] at hb502)
    have h37 := hb502
    have hn1 : kd = 1 → namedB nm = true := fun h_ => by simp only [h_] at h37; simpa using h37
    have hn4 : kd = 4 → namedB dest = true := fun h_ => by simp only [h_] at h37; simpa using h37
    refine wp_skip ?_
    refine gw_nx (hK454 _ _ ?_)
    refine gw_seq fun K515 hK515 => ?_
    refine gw_seq fun K516 hK516 => ?_
    refine wp_region_lit ?_
    refine V H514 (op_field (gwfld55_0 _ _) rfl (H514.ev rfl)) ?_
    intro _ H518; clear H514
    refine V H518 (op_load1 gwagg3 rfl (H518.ev rfl) (blk_at (O495.get 1 rfl) rfl)) ?_
    intro _ H520; clear H518
    refine V H520 (op_eqi rfl (H520.ev rfl) (ev_c _ _)) ?_
    intro _ H522; clear H520
    refine V H522 (op_move rfl (H522.ev rfl)) ?_
    intro _ H524; clear H522
    refine gw_evG H524 rfl rfl rfl rfl (on_t _) rfl (by decide) (fun h_ => (op_move rfl (H524.ev rfl))) ?_
    intro _ H526; clear H524
    refine gw_evG H526 rfl rfl rfl rfl (on_t _) rfl (by decide) (fun h_ => (op_geq rfl (ev_gv (H526.ev rfl) h_) (ev_c _ _))) ?_
    intro _ H528; clear H526
    have H529 := H528.litG (b := true) (fun h_ => by rw [decide_eq_true_eq]; omega)
    clear H528
    refine V H529 (op_pick_and rfl (H529.ev rfl) (fun hp_ => (ev_gv (H529.ev rfl) hp_)) (ev_c _ _)) ?_
    intro _ H531; clear H529
    refine wpList_nil ?_
    refine gw_nx (hK516 _ _ ?_)
    refine gw_cond H531 rfl (fun hb532 => ?_) (fun hb532 => ?_)
    ·
     have H533 := H531.subst_ (d := 45) (b := true) rfl hb532
     clear H531
     (try simp only [Bool.and_eq_true, Bool.or_eq_true, Bool.and_eq_false_iff, Bool.or_eq_false_iff, Bool.not_and, Bool.not_or, Bool.not_not, decide_eq_true_eq, decide_eq_false_iff_not, Bool.not_eq_true', Bool.not_eq_false', Bool.not_eq_true, Bool.not_eq_false, ne_eq, Decidable.not_not, Int.not_lt, Int.not_le, not_true_eq_false, not_false_eq_true, bne_iff_ne, beq_iff_eq, bne_eq_false_iff_eq, beq_eq_false_iff_ne] at hb532)
     have hk1 : kd = 1 := by simpa using hb532
     refine gw_seq fun K534 hK534 => ?_
     refine wp_region_lit ?_
     refine V H533 (op_loadn gwagg50 gwsiz50 rfl (H533.ev rfl) (O495.get 2 rfl) rfl rfl) ?_
     intro _ H536; clear H533
     refine gw_setn 0 H536 O495 rfl (want_none rfl) rfl (op_storen gwsiz50 rfl (H536.ev rfl) (H536.ev rfl) (O495.get 0 rfl) rfl (by simp) (by simp [Value.oneCell'])) ?_
     intro _ w539 H538 O540; clear H536 O495
     have O541 : Own w w539 [Bk g410 [.slice Af files.length cf, J d.most, J d.fuse, .bool d.down] 50, Bk g404 [J kd, .string nm, .string dest, J n, .slice Ay y.length cy] 55, Bk g398 [.slice Af files.length cf, J d.most, J d.fuse, .bool d.down] 50] := O540
     clear O540
     refine V H538 (op_assign rfl (ev_c _ _)) ?_
     intro _ H543; clear H538
     refine wpList_nil ?_
     refine gw_nx (hK534 _ _ ?_)
     refine wp_ret ?_
     refine gw_thr ?_
     refine gw_rets2 H543 rfl (rv_celln H543 rfl gwagg50 gwsiz50 (O541.get 0 rfl) rfl) (rv_tmp H543 rfl) ?_
     exact do_same hP ((does1 (by omega)).trans (create_twice hdn (hn1 (by omega)) hgd)) hd hF hcf hA O541.below
    ·
     have H544 := H531.subst_ (d := 45) (b := false) rfl hb532
     clear H531
     (try simp only [Bool.and_eq_true, Bool.or_eq_true, Bool.and_eq_false_iff, Bool.or_eq_false_iff, Bool.not_and, Bool.not_or, Bool.not_not, decide_eq_true_eq, decide_eq_false_iff_not, Bool.not_eq_true', Bool.not_eq_false', Bool.not_eq_true, Bool.not_eq_false, ne_eq, Decidable.not_not, Int.not_lt, Int.not_le, not_true_eq_false, not_false_eq_true, bne_iff_ne, beq_iff_eq, bne_eq_false_iff_eq, beq_eq_false_iff_ne] at hb532)
     have hk1 : ¬ kd = 1 := by simpa using hb532
     refine wp_skip ?_
     refine gw_nx (hK515 _ _ ?_)
     refine gw_seq fun K545 hK545 => ?_
     refine gw_seq fun K546 hK546 => ?_
     refine wp_region_lit ?_
     refine V H544 (op_field (gwfld55_0 _ _) rfl (H544.ev rfl)) ?_
     intro _ H548; clear H544
     refine V H548 (op_load1 gwagg3 rfl (H548.ev rfl) (blk_at (O495.get 1 rfl) rfl)) ?_
     intro _ H550; clear H548
     refine V H550 (op_nei rfl (H550.ev rfl) (ev_c _ _)) ?_
     intro _ H552; clear H550
     refine V H552 (op_move rfl (H552.ev rfl)) ?_
     intro _ H554; clear H552
     refine gw_evG H554 rfl rfl rfl rfl (on_t _) rfl (by decide) (fun h_ => (op_move rfl (H554.ev rfl))) ?_
     intro _ H556; clear H554
     refine gw_evG H556 rfl rfl rfl rfl (on_t _) rfl (by decide) (fun h_ => (op_lss rfl (ev_gv (H556.ev rfl) h_) (ev_c _ _))) ?_
     intro _ H558; clear H556
     have H559 := H558.litG (b := false) (fun h_ => by rw [decide_eq_false_iff_not]; omega)
     clear H558
     refine V H559 (op_pick_and rfl (H559.ev rfl) (fun hp_ => (ev_gv (H559.ev rfl) hp_)) (ev_c _ _)) ?_
     intro _ H561; clear H559
     have H562 := H561.lit (b := false) (by simp)
     clear H561
     refine wpList_nil ?_
     refine gw_nx (hK546 _ _ ?_)
     refine gw_cond H562 rfl (fun hb563 => ?_) (fun hb563 => ?_)
     skip
     ·
      cases hb563
     refine wp_skip ?_
     refine gw_nx (hK545 _ _ ?_)
     refine gw_seq fun K564 hK564 => ?_
     refine wp_region_lit ?_
     refine V H562 (op_field (gwfld55_1 _ _) rfl (H562.ev rfl)) ?_
     intro _ H566; clear H562
     refine V H566 (op_load1 gwagg9 rfl (H566.ev rfl) (blk_at (O495.get 1 rfl) rfl)) ?_
     intro _ H568; clear H566
     refine V H568 (op_build (cells := #[.string nm, .slice none 0 0, J 0]) rfl (pt_cons (H568.ev rfl) pt_nil) (by kernel_rfl)) ?_
     intro _ H570; clear H568
     refine gw_new H570 O495 (want_none rfl) rfl (by decide) (op_alloc gwzer93 rfl) ?_
     intro g571 _ w573 H574 O575; clear H570 O495
     have O576 : Own w w573 [Bk g571 [.string (⟨#[]⟩ : ByteArray), .slice none 0 0, J 0] 93, Bk g410 [.slice none 0 0, J 0, J 0, .bool false] 50, Bk g404 [J kd, .string nm, .string dest, J n, .slice Ay y.length cy] 55, Bk g398 [.slice Af files.length cf, J d.most, J d.fuse, .bool d.down] 50] := O575
     clear O575
     refine gw_setn 0 H574 O576 rfl (want_none rfl) rfl (op_storen gwsiz93 rfl (H574.ev rfl) (H574.ev rfl) (O576.get 0 rfl) rfl (by simp) (by simp [Value.oneCell'])) ?_
     intro _ w579 H578 O580; clear H574 O576
     have O581 : Own w w579 [Bk g571 [.string nm, .slice none 0 0, J 0] 93, Bk g410 [.slice none 0 0, J 0, J 0, .bool false] 50, Bk g404 [J kd, .string nm, .string dest, J n, .slice Ay y.length cy] 55, Bk g398 [.slice Af files.length cf, J d.most, J d.fuse, .bool d.down] 50] := O580
     clear O580
     refine wpList_nil ?_
     refine gw_nx (hK564 _ _ ?_)
     refine gw_seq fun K582 hK582 => ?_
     refine gw_seq fun K583 hK583 => ?_
     refine wp_region_lit ?_
     refine V H578 (op_move rfl (H578.ev rfl)) ?_
     intro _ H585; clear H578
     refine V H585 (op_geq rfl (H585.ev rfl) (ev_c _ _)) ?_
     intro _ H587; clear H585
     have H588 := H587.lit (b := true) (by rw [decide_eq_true_eq]; omega)
     clear H587
     refine wpList_nil ?_
     refine gw_nx (hK583 _ _ ?_)
     refine gw_cond H588 rfl (fun hb589 => ?_) (fun hb589 => ?_)
     rotate_left
     ·
      cases hb589
     refine wp_region_lit ?_
     refine V H588 (op_field (gwfld50_0 _ _) rfl (H588.ev rfl)) ?_
     intro _ H591; clear H588
     refine V H591 (op_load1 gwagg48 rfl (H591.ev rfl) (blk_at (O581.get 3 rfl) rfl)) ?_
     intro _ H593; clear H591
     refine V H593 (op_move rfl (H593.ev rfl)) ?_
     intro _ H595; clear H593
     obtain ⟨ad596, cs599, hA597, hl600, hK601, hc598, _⟩ := Kd.F_get hF z93 i0 (by omega) (by omega)
     obtain ⟨A602, c603, rfl, hl604, hC605⟩ := k93_openF hK601
     clear hl600
     refine V H595 (op_index Try.underlying48 gwsiz93 rfl (H595.ev rfl) (H595.ev rfl) hA597 (⟨by omega, by omega⟩)) ?_
     intro _ H607; clear H595
     refine V H607 (op_loadc gwagg93 gwsiz93 rfl (H607.ev rfl) rfl (cells0 O581 hc598)) ?_
     intro _ H609; clear H607
     refine gw_setn 0 H609 O581 rfl (want_none rfl) rfl (op_storen gwsiz93 rfl (H609.ev rfl) (H609.ev rfl) (O581.get 0 rfl) rfl (by simp) (by simp [Value.oneCell'])) ?_
     intro _ w612 H611 O613; clear H609 O581
     have O614 : Own w w612 [Bk g571 [.string ((files.getD i0.toNat z93).f0), .slice A602 ((files.getD i0.toNat z93).f1.length) c603, J ((files.getD i0.toNat z93).f2)] 93, Bk g410 [.slice none 0 0, J 0, J 0, .bool false] 50, Bk g404 [J kd, .string nm, .string dest, J n, .slice Ay y.length cy] 55, Bk g398 [.slice Af files.length cf, J d.most, J d.fuse, .bool d.down] 50] := O613
     clear O613
     refine wpList_nil ?_
     refine gw_nx (hK582 _ _ ?_)
     refine gw_seq fun K615 hK615 => ?_
     refine gw_seq fun K616 hK616 => ?_
     refine wp_region_lit ?_
     refine V H611 (op_field (gwfld55_0 _ _) rfl (H611.ev rfl)) ?_
     intro _ H618; clear H611
     refine V H618 (op_load1 gwagg3 rfl (H618.ev rfl) (blk_at (O614.get 2 rfl) rfl)) ?_
     intro _ H620; clear H618
     refine V H620 (op_eqi rfl (H620.ev rfl) (ev_c _ _)) ?_
     intro _ H622; clear H620
     refine V H622 (op_move rfl (H622.ev rfl)) ?_
     intro _ H624; clear H622
     refine gw_evG H624 rfl rfl rfl rfl (on_t _) rfl (by decide) (fun h_ => (op_field (gwfld55_3 _ _) rfl (H624.ev rfl))) ?_
     intro _ H626; clear H624
     refine gw_evG H626 rfl rfl rfl rfl (on_t _) rfl (by decide) (fun h_ => (op_load1 gwagg3 rfl (ev_gv (H626.ev rfl) h_) (blk_at (O614.get 2 rfl) rfl))) ?_
     intro _ H628; clear H626
     refine gw_evG H628 rfl rfl rfl rfl (on_t _) rfl (by decide) (fun h_ => (op_lss rfl (ev_gv (H628.ev rfl) h_) (ev_c _ _))) ?_
     intro _ H630; clear H628
     refine gw_evG H630 rfl rfl rfl rfl (on_t _) rfl (by decide) (fun h_ => (op_move rfl (ev_gv (H630.ev rfl) h_))) ?_
     intro _ H632; clear H630
     refine gw_evG H632 rfl rfl rfl rfl (on_gf _ _) rfl (by decide) (fun h_ => (op_field (gwfld55_3 _ _) rfl (H632.ev rfl))) ?_
     intro _ H634; clear H632
     refine gw_evG H634 rfl rfl rfl rfl (on_gf _ _) rfl (by decide) (fun h_ => (op_load1 gwagg3 rfl (ev_gv (H634.ev rfl) (andi (and1 h_) (and2 h_))) (blk_at (O614.get 2 rfl) rfl))) ?_
     intro _ H636; clear H634
     refine gw_evG H636 rfl rfl rfl rfl (on_gf _ _) rfl (by decide) (fun h_ => (op_field (gwfld93_1 _ _) rfl (H636.ev rfl))) ?_
     intro _ H638; clear H636
     refine gw_evG H638 rfl rfl rfl rfl (on_gf _ _) rfl (by decide) (fun h_ => (op_load1 gwagg28 rfl (ev_gv (H638.ev rfl) (andi (and1 h_) (and2 h_))) (blk_at (O614.get 0 rfl) rfl))) ?_
     intro _ H640; clear H638
     refine gw_evG H640 rfl rfl rfl rfl (on_gf _ _) rfl (by decide) (fun h_ => (op_len Try.underlying28 rfl (ev_gv (H640.ev rfl) (andi (and1 h_) (and2 h_))))) ?_
     intro _ H642; clear H640
     refine gw_evG H642 rfl rfl rfl rfl (on_gf _ _) rfl (by decide) (fun h_ => (op_gtr rfl (ev_gv (H642.ev rfl) (andi (and1 h_) (and2 h_))) (ev_gv (H642.ev rfl) (andi (and1 h_) (and2 h_))))) ?_
     intro _ H644; clear H642
     refine gw_evG H644 rfl rfl rfl rfl (on_t _) rfl (by decide) (fun h_ => (op_pick_or rfl (ev_gv (H644.ev rfl) h_) (ev_c _ _) (fun hp_ => (ev_gv (H644.ev rfl) (andi h_ (not_t hp_)))))) ?_
     intro _ H646; clear H644
     refine V H646 (op_pick_and rfl (H646.ev rfl) (fun hp_ => (ev_gv (H646.ev rfl) hp_)) (ev_c _ _)) ?_
     intro _ H648; clear H646
     refine wpList_nil ?_
     refine gw_nx (hK616 _ _ ?_)
     refine gw_cond H648 rfl (fun hb649 => ?_) (fun hb649 => ?_)
     ·
      have H650 := H648.subst_ (d := 80) (b := true) rfl hb649
      clear H648
      (try simp only [Bool.and_eq_true, Bool.or_eq_true, Bool.and_eq_false_iff, Bool.or_eq_false_iff, Bool.not_and, Bool.not_or, Bool.not_not, decide_eq_true_eq, decide_eq_false_iff_not, Bool.not_eq_true', Bool.not_eq_false', Bool.not_eq_true, Bool.not_eq_false, ne_eq, Decidable.not_not, Int.not_lt, Int.not_le, not_true_eq_false, not_false_eq_true, bne_iff_ne, beq_iff_eq, bne_eq_false_iff_eq, beq_eq_false_iff_ne] at hb649)
      have h80 := hb649
      refine gw_seq fun K651 hK651 => ?_
      refine wp_region_lit ?_
      refine V H650 (op_loadn gwagg50 gwsiz50 rfl (H650.ev rfl) (O614.get 3 rfl) rfl rfl) ?_
      intro _ H653; clear H650
      refine gw_setn 1 H653 O614 rfl (want_none rfl) rfl (op_storen gwsiz50 rfl (H653.ev rfl) (H653.ev rfl) (O614.get 1 rfl) rfl (by simp) (by simp [Value.oneCell'])) ?_
      intro _ w656 H655 O657; clear H653 O614
      have O658 : Own w w656 [Bk g571 [.string ((files.getD i0.toNat z93).f0), .slice A602 ((files.getD i0.toNat z93).f1.length) c603, J ((files.getD i0.toNat z93).f2)] 93, Bk g410 [.slice Af files.length cf, J d.most, J d.fuse, .bool d.down] 50, Bk g404 [J kd, .string nm, .string dest, J n, .slice Ay y.length cy] 55, Bk g398 [.slice Af files.length cf, J d.most, J d.fuse, .bool d.down] 50] := O657
      clear O657
      refine V H655 (op_assign rfl (ev_c _ _)) ?_
      intro _ H660; clear H655
      refine wpList_nil ?_
      refine gw_nx (hK651 _ _ ?_)
      refine wp_ret ?_
      refine gw_thr ?_
      refine gw_rets2 H660 rfl (rv_celln H660 rfl gwagg50 gwsiz50 (O658.get 1 rfl) rfl) (rv_tmp H660 rfl) ?_
      exact do_same hP ((does5 (by omega) (by omega) (by omega) (by omega) (by omega)).trans (cut_bad hdn hgd (show n < 0 ∨ ((files.getD i0.toNat z93).f1.length : Int) < n by omega))) hd hF hcf hA O658.below
     ·
      have H661 := H648.subst_ (d := 80) (b := false) rfl hb649
      clear H648
      (try simp only [Bool.and_eq_true, Bool.or_eq_true, Bool.and_eq_false_iff, Bool.or_eq_false_iff, Bool.not_and, Bool.not_or, Bool.not_not, decide_eq_true_eq, decide_eq_false_iff_not, Bool.not_eq_true', Bool.not_eq_false', Bool.not_eq_true, Bool.not_eq_false, ne_eq, Decidable.not_not, Int.not_lt, Int.not_le, not_true_eq_false, not_false_eq_true, bne_iff_ne, beq_iff_eq, bne_eq_false_iff_eq, beq_eq_false_iff_ne] at hb649)
      have h80 := hb649
      refine wp_skip ?_
      refine gw_nx (hK615 _ _ ?_)
      refine gw_seq fun K662 hK662 => ?_
      refine gw_seq fun K663 hK663 => ?_
      refine gw_drawB O614 (by kernel_rfl) (by kernel_rfl) fun w664 O665 => ?_
      clear O614
      refine gq_ev H661 (want_none rfl) rfl (by decide) (fun wq hq => have HO := O665.after hq; (op_field (gwfld55_0 _ _) rfl (H661.ev rfl))) ?_
      intro _ H667; clear H661
      refine gq_ev H667 (want_none rfl) rfl (by decide) (fun wq hq => have HO := O665.after hq; (op_load1 gwagg3 rfl (H667.ev rfl) (blk_at (HO.get 2 rfl) rfl))) ?_
      intro _ H669; clear H667
      refine gq_ev H669 (want_none rfl) rfl (by decide) (fun wq hq => have HO := O665.after hq; (op_eqi rfl (H669.ev rfl) (ev_c _ _))) ?_
      intro _ H671; clear H669
      refine gq_ev H671 (want_none rfl) rfl (by decide) (fun wq hq => have HO := O665.after hq; (op_move rfl (H671.ev rfl))) ?_
      intro _ H673; clear H671
      refine gq_evG H673 rfl rfl rfl rfl (on_t _) rfl (by decide) (fun h_ wq hq => have HO := O665.after hq; (op_field (gwfld55_4 _ _) rfl (H673.ev rfl))) ?_
      intro _ H675; clear H673
      refine gq_evG H675 rfl rfl rfl rfl (on_t _) rfl (by decide) (fun h_ wq hq => have HO := O665.after hq; (op_load1 gwagg28 rfl (ev_gv (H675.ev rfl) h_) (blk_at (HO.get 2 rfl) rfl))) ?_
      intro _ H677; clear H675
      refine gq_evG H677 rfl rfl rfl rfl (on_t _) rfl (by decide) (fun h_ wq hq => have HO := O665.after hq; (op_len Try.underlying28 rfl (ev_gv (H677.ev rfl) h_))) ?_
      intro _ H679; clear H677
      refine gq_evG H679 rfl rfl rfl rfl (on_t _) rfl (by decide) (fun h_ wq hq => have HO := O665.after hq; (op_field (gwfld50_1 _ _) rfl (H679.ev rfl))) ?_
      intro _ H681; clear H679
      refine gq_evG H681 rfl rfl rfl rfl (on_t _) rfl (by decide) (fun h_ wq hq => have HO := O665.after hq; (op_load1 gwagg3 rfl (ev_gv (H681.ev rfl) h_) (blk_at (HO.get 3 rfl) rfl))) ?_
      intro _ H683; clear H681
      refine gq_evG H683 rfl rfl rfl rfl (on_t _) rfl (by decide) (fun h_ wq hq => have HO := O665.after hq; (op_loadn gwagg50 gwsiz50 rfl (H683.ev rfl) (HO.get 3 rfl) rfl rfl)) ?_
      intro _ H685; clear H683
      refine gq_callG H685 rfl rfl rfl rfl (on_t _) rfl (by decide) (fun h_ wq hq => have HO := O665.after hq; (op_callL Try.func54 (by kernel_rfl) rfl rfl (ar_cons (ev_gv (H685.ev rfl) h_) ar_nil))) (fun h_ wq hq => have HO := O665.after hq; (used_ref Af cf files d.most d.fuse d.down _ (Kd.C_below (Kd.F_now hF) HO.below) hcf hlf (by (try simp only [Bool.and_eq_true, Bool.or_eq_true, Bool.and_eq_false_iff, Bool.or_eq_false_iff, Bool.not_and, Bool.not_or, Bool.not_not, decide_eq_true_eq, decide_eq_false_iff_not, Bool.not_eq_true', Bool.not_eq_false', Bool.not_eq_true, Bool.not_eq_false, ne_eq, Decidable.not_not, Int.not_lt, Int.not_le, not_true_eq_false, not_false_eq_true, bne_iff_ne, beq_iff_eq, bne_eq_false_iff_eq, beq_eq_false_iff_ne] at h_); omega)).mono fun e w' h => ⟨h.1, below_then hq h.2⟩) ?_
      intro _ H687; clear H685
      have H688 := H687.conv (v' := gv (decide (kd = 2)) (J d.used)) (congrArg (gv _) (congrArg (Value.int .i64) hus))
      clear H687
      refine gq_evG H688 rfl rfl rfl rfl (on_t _) rfl (by decide) (fun h_ wq hq => have HO := O665.after hq; (op_sub rfl (ev_gv (H688.ev rfl) h_) (ev_gv (H688.ev rfl) h_) (by (try simp only [Bool.and_eq_true, Bool.or_eq_true, Bool.and_eq_false_iff, Bool.or_eq_false_iff, Bool.not_and, Bool.not_or, Bool.not_not, decide_eq_true_eq, decide_eq_false_iff_not, Bool.not_eq_true', Bool.not_eq_false', Bool.not_eq_true, Bool.not_eq_false, ne_eq, Decidable.not_not, Int.not_lt, Int.not_le, not_true_eq_false, not_false_eq_true, bne_iff_ne, beq_iff_eq, bne_eq_false_iff_eq, beq_eq_false_iff_ne] at h_); omega))) ?_
      intro _ H690; clear H688
      refine gq_evG H690 rfl rfl rfl rfl (on_t _) rfl (by decide) (fun h_ wq hq => have HO := O665.after hq; (op_gtr rfl (ev_gv (H690.ev rfl) h_) (ev_gv (H690.ev rfl) h_))) ?_
      intro _ H692; clear H690
      refine gq_ev H692 (want_none rfl) rfl (by decide) (fun wq hq => have HO := O665.after hq; (op_pick_and rfl (H692.ev rfl) (fun hp_ => (ev_gv (H692.ev rfl) hp_)) (ev_c _ _))) ?_
      intro _ H694; clear H692
      refine wpQuiet_nil ?_
      intro w695 hq
      have O696 := O665.after hq
      clear O665 hq
      refine gw_nx (hK663 _ _ ?_)
      refine gw_cond H694 rfl (fun hb697 => ?_) (fun hb697 => ?_)
      ·
       have H698 := H694.subst_ (d := 95) (b := true) rfl hb697
       clear H694
       (try simp only [Bool.and_eq_true, Bool.or_eq_true, Bool.and_eq_false_iff, Bool.or_eq_false_iff, Bool.not_and, Bool.not_or, Bool.not_not, decide_eq_true_eq, decide_eq_false_iff_not, Bool.not_eq_true', Bool.not_eq_false', Bool.not_eq_true, Bool.not_eq_false, ne_eq, Decidable.not_not, Int.not_lt, Int.not_le, not_true_eq_false, not_false_eq_true, bne_iff_ne, beq_iff_eq, bne_eq_false_iff_eq, beq_eq_false_iff_ne] at hb697)
       have h95 := hb697
       refine gw_seq fun K699 hK699 => ?_
       refine wp_region_lit ?_
       refine V H698 (op_loadn gwagg50 gwsiz50 rfl (H698.ev rfl) (O696.get 3 rfl) rfl rfl) ?_
       intro _ H701; clear H698
       refine gw_setn 1 H701 O696 rfl (want_none rfl) rfl (op_storen gwsiz50 rfl (H701.ev rfl) (H701.ev rfl) (O696.get 1 rfl) rfl (by simp) (by simp [Value.oneCell'])) ?_
       intro _ w704 H703 O705; clear H701 O696
       have O706 : Own w w704 [Bk g571 [.string ((files.getD i0.toNat z93).f0), .slice A602 ((files.getD i0.toNat z93).f1.length) c603, J ((files.getD i0.toNat z93).f2)] 93, Bk g410 [.slice Af files.length cf, J d.most, J d.fuse, .bool d.down] 50, Bk g404 [J kd, .string nm, .string dest, J n, .slice Ay y.length cy] 55, Bk g398 [.slice Af files.length cf, J d.most, J d.fuse, .bool d.down] 50] := O705
       clear O705
       refine V H703 (op_assign rfl (ev_c _ _)) ?_
       intro _ H708; clear H703
       refine wpList_nil ?_
       refine gw_nx (hK699 _ _ ?_)
       refine wp_ret ?_
       refine gw_thr ?_
       refine gw_rets2 H708 rfl (rv_celln H708 rfl gwagg50 gwsiz50 (O706.get 1 rfl) rfl) (rv_tmp H708 rfl) ?_
       exact do_same hP ((does2 (by omega) (by omega)).trans (append_full hdn hgd (by omega))) hd hF hcf hA O706.below
      ·
       have H709 := H694.subst_ (d := 95) (b := false) rfl hb697
       clear H694
       (try simp only [Bool.and_eq_true, Bool.or_eq_true, Bool.and_eq_false_iff, Bool.or_eq_false_iff, Bool.not_and, Bool.not_or, Bool.not_not, decide_eq_true_eq, decide_eq_false_iff_not, Bool.not_eq_true', Bool.not_eq_false', Bool.not_eq_true, Bool.not_eq_false, ne_eq, Decidable.not_not, Int.not_lt, Int.not_le, not_true_eq_false, not_false_eq_true, bne_iff_ne, beq_iff_eq, bne_eq_false_iff_eq, beq_eq_false_iff_ne] at hb697)
       have h95 := hb697
       refine wp_skip ?_
       refine gw_nx (hK662 _ _ ?_)
       refine gw_joinS (fun a_ w_ => ∃ (fu : Int), Fr 186 a_ [(2, .pointer (some ⟨g398, 0, none⟩)), (3, .pointer (some ⟨g404, 0, none⟩)), (4, .pointer (some ⟨g410, 0, none⟩)), (7, .pointer (some ⟨g571, 0, none⟩))] ∧ Own w w_ [Bk g571 [.string ((files.getD i0.toNat z93).f0), .slice A602 ((files.getD i0.toNat z93).f1.length) c603, J ((files.getD i0.toNat z93).f2)] 93, Bk g410 [.slice none 0 0, J 0, J 0, .bool false] 50, Bk g404 [J kd, .string nm, .string dest, J n, .slice Ay y.length cy] 55, Bk g398 [.slice Af files.length cf, J d.most, J fu, .bool d.down] 50] ∧ (fu = decF d.fuse ∧ d.fuse ≠ 1)) ?_ ?_
       ·
        refine gw_seq fun K710 hK710 => ?_
        refine wp_region_lit ?_
        refine V H709 (op_field (gwfld50_2 _ _) rfl (H709.ev rfl)) ?_
        intro _ H712; clear H709
        refine V H712 (op_load1 gwagg3 rfl (H712.ev rfl) (blk_at (O696.get 3 rfl) rfl)) ?_
        intro _ H714; clear H712
        refine V H714 (op_gtr rfl (H714.ev rfl) (ev_c _ _)) ?_
        intro _ H716; clear H714
        refine wpList_nil ?_
        refine gw_nx (hK710 _ _ ?_)
        refine gw_cond H716 rfl (fun hb717 => ?_) (fun hb717 => ?_)
        ·
         have H718 := H716.subst_ (d := 99) (b := true) rfl hb717
         clear H716
         (try simp only [decide_eq_true_eq] at hb717)
         refine gw_seq fun K719 hK719 => ?_
         refine wp_region_lit ?_
         refine V H718 (op_field (gwfld50_2 _ _) rfl (H718.ev rfl)) ?_
         intro _ H721; clear H718
         refine V H721 (op_load1 gwagg3 rfl (H721.ev rfl) (blk_at (O696.get 3 rfl) rfl)) ?_
         intro _ H723; clear H721
         refine V H723 (op_sub rfl (H723.ev rfl) (ev_c _ _) (by omega)) ?_
         intro _ H725; clear H723
         refine V H725 (op_field (gwfld50_2 _ _) rfl (H725.ev rfl)) ?_
         intro _ H727; clear H725
         refine gw_set 3 H727 O696 rfl (want_none rfl) rfl (op_store1 gwsiz3 rfl (H727.ev rfl) (H727.ev rfl) rfl (blk_at (O696.get 3 rfl) rfl) (blkf (O696.get 3 rfl))) ?_
         intro _ w730 H729 O731; clear H727 O696
         have O732 : Own w w730 [Bk g571 [.string ((files.getD i0.toNat z93).f0), .slice A602 ((files.getD i0.toNat z93).f1.length) c603, J ((files.getD i0.toNat z93).f2)] 93, Bk g410 [.slice none 0 0, J 0, J 0, .bool false] 50, Bk g404 [J kd, .string nm, .string dest, J n, .slice Ay y.length cy] 55, Bk g398 [.slice Af files.length cf, J d.most, J (d.fuse - 1), .bool d.down] 50] := O731
         clear O731
         refine wpList_nil ?_
         refine gw_nx (hK719 _ _ ?_)
         refine gw_seq fun K733 hK733 => ?_
         refine wp_region_lit ?_
         refine V H729 (op_field (gwfld50_2 _ _) rfl (H729.ev rfl)) ?_
         intro _ H735; clear H729
         refine V H735 (op_load1 gwagg3 rfl (H735.ev rfl) (blk_at (O732.get 3 rfl) rfl)) ?_
         intro _ H737; clear H735
         refine V H737 (op_eqi rfl (H737.ev rfl) (ev_c _ _)) ?_
         intro _ H739; clear H737
         refine wpList_nil ?_
         refine gw_nx (hK733 _ _ ?_)
         refine gw_cond H739 rfl (fun hb740 => ?_) (fun hb740 => ?_)
         ·
          have H741 := H739.subst_ (d := 106) (b := true) rfl hb740
          clear H739
          (try simp only [decide_eq_true_eq] at hb740)
          refine gw_seq fun K742 hK742 => ?_
          refine wp_region_lit ?_
          refine V H741 (op_field (gwfld50_3 _ _) rfl (H741.ev rfl)) ?_
          intro _ H744; clear H741
          refine gw_set 3 H744 O732 rfl (want_none rfl) rfl (op_store1 gwsiz4 rfl (H744.ev rfl) (ev_c _ _) rfl (blk_at (O732.get 3 rfl) rfl) (blkf (O732.get 3 rfl))) ?_
          intro _ w747 H746 O748; clear H744 O732
          have O749 : Own w w747 [Bk g571 [.string ((files.getD i0.toNat z93).f0), .slice A602 ((files.getD i0.toNat z93).f1.length) c603, J ((files.getD i0.toNat z93).f2)] 93, Bk g410 [.slice none 0 0, J 0, J 0, .bool false] 50, Bk g404 [J kd, .string nm, .string dest, J n, .slice Ay y.length cy] 55, Bk g398 [.slice Af files.length cf, J d.most, J (d.fuse - 1), .bool true] 50] := O748
          clear O748
          refine wpList_nil ?_
          refine gw_nx (hK742 _ _ ?_)
          refine gw_seq fun K750 hK750 => ?_
          refine wp_region_lit ?_
          refine V H746 (op_loadn gwagg50 gwsiz50 rfl (H746.ev rfl) (O749.get 3 rfl) rfl rfl) ?_
          intro _ H752; clear H746
          refine gw_setn 1 H752 O749 rfl (want_none rfl) rfl (op_storen gwsiz50 rfl (H752.ev rfl) (H752.ev rfl) (O749.get 1 rfl) rfl (by simp) (by simp [Value.oneCell'])) ?_
          intro _ w755 H754 O756; clear H752 O749
          have O757 : Own w w755 [Bk g571 [.string ((files.getD i0.toNat z93).f0), .slice A602 ((files.getD i0.toNat z93).f1.length) c603, J ((files.getD i0.toNat z93).f2)] 93, Bk g410 [.slice Af files.length cf, J d.most, J (d.fuse - 1), .bool true] 50, Bk g404 [J kd, .string nm, .string dest, J n, .slice Ay y.length cy] 55, Bk g398 [.slice Af files.length cf, J d.most, J (d.fuse - 1), .bool true] 50] := O756
          clear O756
          refine V H754 (op_assign rfl (ev_c _ _)) ?_
          intro _ H759; clear H754
          refine wpList_nil ?_
          refine gw_nx (hK750 _ _ ?_)
          refine wp_ret ?_
          refine gw_thr ?_
          refine gw_rets2 H759 rfl (rv_celln H759 rfl gwagg50 gwsiz50 (O757.get 1 rfl) rfl) (rv_tmp H759 rfl) ?_
          rw [show d.fuse - 1 = 0 by omega]
          exact do_same (d2 := { d with fuse := 0, down := true }) hP ((does_go (f := ofS (files.getD i0.toNat z93)) hdn (.inr ⟨by omega, hgd, fun h_ => by omega, hn4, fun h_ => (show ¬ (n < 0 ∨ ((files.getD i0.toNat z93).f1.length : Int) < n) by omega)⟩)).trans (step_off (by omega))) hd hF hcf hA O757.below
         ·
          have H760 := H739.subst_ (d := 106) (b := false) rfl hb740
          clear H739
          (try simp only [decide_eq_false_iff_not] at hb740)
          refine wp_skip ?_
          refine gw_nx ⟨(d.fuse - 1), (H760.pick (t := 2) rfl (H760.pick (t := 3) rfl (H760.pick (t := 4) rfl (H760.pick (t := 7) rfl H760.nil)))), O732.sel [0, 1, 2, 3] (by decide), ?_⟩
          ·
           exact ⟨by unfold decF; split <;> omega, by omega⟩
        ·
         have H761 := H716.subst_ (d := 99) (b := false) rfl hb717
         clear H716
         (try simp only [decide_eq_false_iff_not, Int.not_lt] at hb717)
         refine wp_skip ?_
         refine gw_nx ⟨d.fuse, (H761.pick (t := 2) rfl (H761.pick (t := 3) rfl (H761.pick (t := 4) rfl (H761.pick (t := 7) rfl H761.nil)))), O696.sel [0, 1, 2, 3] (by decide), ?_⟩
         ·
          exact ⟨by unfold decF; split <;> omega, by omega⟩
       ·
        rintro _ w763 ⟨fu, H764, O765, hfud⟩
        refine gw_seq fun K766 hK766 => ?_
        refine gw_seq fun K767 hK767 => ?_
        refine wp_region_lit ?_
        refine V H764 (op_field (gwfld55_0 _ _) rfl (H764.ev rfl)) ?_
        intro _ H769; clear H764
        refine V H769 (op_load1 gwagg3 rfl (H769.ev rfl) (blk_at (O765.get 2 rfl) rfl)) ?_
        intro _ H771; clear H769
        refine wpList_nil ?_
        refine gw_nx (hK767 _ _ ?_)
        refine wp_block ?_
        refine gw_seq fun K772 hK772 => ?_
        refine wp_region_lit ?_
        refine V H771 (op_eqi rfl (H771.ev rfl) (ev_c _ _)) ?_
        intro _ H774; clear H771
        refine V H774 (op_assign rfl (H774.ev rfl)) ?_
        intro _ H776; clear H774
        refine wpList_nil ?_
        refine gw_nx (hK772 _ _ ?_)
        refine gw_cond H776 rfl (fun hb777 => ?_) (fun hb777 => ?_)
        ·
         have H778 := H776.subst_ (d := 111) (b := true) rfl hb777
         clear H776
         (try simp only [decide_eq_true_eq] at hb777)
         have hk2 := hb777
         refine gw_seq fun K779 hK779 => ?_
         refine wp_region_lit ?_
         refine gw_lit (enc := Value.int .u8) (fun _ => rfl) (xs := ([] : List Int)) (e := 5) H778 O765 (want_none rfl) rfl (by decide) (op_bslice (by kernel_rfl) rfl pt_nil) (by simp) ?_
         intro A780 S781 _ w783 H784 O785; clear H778 O765
         have O786 : Own w w783 [Chunk.row (Kd.int .u8) 5 w.heap.size S781 (.slice A780 ((([] : List Int)).length) ((([] : List Int)).length)) ([] : List Int), Bk g571 [.string ((files.getD i0.toNat z93).f0), .slice A602 ((files.getD i0.toNat z93).f1.length) c603, J ((files.getD i0.toNat z93).f2)] 93, Bk g410 [.slice none 0 0, J 0, J 0, .bool false] 50, Bk g404 [J kd, .string nm, .string dest, J n, .slice Ay y.length cy] 55, Bk g398 [.slice Af files.length cf, J d.most, J fu, .bool d.down] 50] := O785
         clear O785
         refine V H784 (op_assign rfl (H784.ev rfl)) ?_
         intro _ H788; clear H784
         refine wpList_nil ?_
         refine gw_nx (hK779 _ _ ?_)
         refine gw_seq fun K789 hK789 => ?_
         refine gw_seq fun K790 hK790 => ?_
         refine wp_region_lit ?_
         refine V H788 (op_assign rfl (ev_c _ _)) ?_
         intro _ H792; clear H788
         refine wpList_nil ?_
         refine gw_nx (hK790 _ _ ?_)
         refine wp_block ?_
         refine gw_loop (fun m_ a_ w_ => ∃ (j : Int) (bb : List Int) (Aa : Option Addr) (ca : Nat) (Sr : Nat → Prop), Fr 186 a_ [(9, J j), (8, .slice Aa bb.length ca), (2, .pointer (some ⟨g398, 0, none⟩)), (3, .pointer (some ⟨g404, 0, none⟩)), (4, .pointer (some ⟨g410, 0, none⟩)), (7, .pointer (some ⟨g571, 0, none⟩))] ∧ Own w w_ [Chunk.row (Kd.int .u8) 5 w.heap.size Sr (.slice Aa bb.length ca) bb, Bk g571 [.string ((files.getD i0.toNat z93).f0), .slice A602 ((files.getD i0.toNat z93).f1.length) c603, J ((files.getD i0.toNat z93).f2)] 93, Bk g410 [.slice none 0 0, J 0, J 0, .bool false] 50, Bk g404 [J kd, .string nm, .string dest, J n, .slice Ay y.length cy] 55, Bk g398 [.slice Af files.length cf, J d.most, J fu, .bool d.down] 50] ∧ (0 ≤ j ∧ j ≤ (files.getD i0.toNat z93).f1.length) ∧ (bb = (files.getD i0.toNat z93).f1.take j.toNat) ∧ ((bb.length : Int) = j) ∧ m_ = ((files.getD i0.toNat z93).f1.length - j.toNat)) (((files.getD i0.toNat z93).f1.length - (0 : Int).toNat)) ?_ ?_
         ·
          refine ⟨0, [], A780, _, _, (H792.pick (t := 9) rfl (H792.pick (t := 8) rfl (H792.pick (t := 2) rfl (H792.pick (t := 3) rfl (H792.pick (t := 4) rfl (H792.pick (t := 7) rfl H792.nil)))))), O786.sel [0, 1, 2, 3, 4] (by decide), ?_, ?_, ?_, rfl⟩
          ·
           omega
          ·
           simp
          ·
           simp
         ·
          rintro m794 _ w796 ⟨j, bb, Aa, ca, Sr, H797, O798, hj, hbb, hbl, hm799⟩
          refine gw_seq fun K800 hK800 => ?_
          refine gw_seq fun K801 hK801 => ?_
          refine wp_region_lit ?_
          refine V H797 (op_move rfl (H797.ev rfl)) ?_
          intro _ H803; clear H797
          refine V H803 (op_field (gwfld93_1 _ _) rfl (H803.ev rfl)) ?_
          intro _ H805; clear H803
          refine V H805 (op_load1 gwagg28 rfl (H805.ev rfl) (blk_at (O798.get 1 rfl) rfl)) ?_
          intro _ H807; clear H805
          refine V H807 (op_len Try.underlying28 rfl (H807.ev rfl)) ?_
          intro _ H809; clear H807
          refine V H809 (op_lss rfl (H809.ev rfl) (H809.ev rfl)) ?_
          intro _ H811; clear H809
          refine wpList_nil ?_
          refine gw_nx (hK801 _ _ ?_)
          refine gw_cond H811 rfl (fun hb812 => ?_) (fun hb812 => ?_)
          ·
           have H813 := H811.subst_ (d := 118) (b := true) rfl hb812
           clear H811
           (try simp only [decide_eq_true_eq] at hb812)
           refine wp_skip ?_
           refine gw_nx (hK800 _ _ ?_)
           refine gw_seq fun K814 hK814 => ?_
           refine wp_block ?_
           refine wp_region_lit ?_
           refine V H813 (op_move rfl (H813.ev rfl)) ?_
           intro _ H816; clear H813
           refine V H816 (op_field (gwfld93_1 _ _) rfl (H816.ev rfl)) ?_
           intro _ H818; clear H816
           refine V H818 (op_load1 gwagg28 rfl (H818.ev rfl) (blk_at (O798.get 1 rfl) rfl)) ?_
           intro _ H820; clear H818
           refine V H820 (op_move rfl (H820.ev rfl)) ?_
           intro _ H822; clear H820
           obtain ⟨ad823, cs826, hA824, hl827, hK828, hc825, _⟩ := Kd.F_get hC605 (0 : Int) j (by omega) (by omega)
           obtain rfl := int_openF hK828
           clear hl827
           refine V H822 (op_index Try.underlying28 gwsiz5 rfl (H822.ev rfl) (H822.ev rfl) hA824 (⟨by omega, by omega⟩)) ?_
           intro _ H830; clear H822
           refine V H830 (op_load1 gwagg5 rfl (H830.ev rfl) (O798.cell0 (at0 hc825))) ?_
           intro _ H832; clear H830
           refine gw_lit (enc := Value.int .u8) (fun _ => rfl) (xs := [(((files.getD i0.toNat z93).f1).getD j.toNat (0 : Int))]) (e := 5) H832 O798 (want_none rfl) rfl (by decide) (op_bslice (by kernel_rfl) rfl (pt_cons (H832.ev rfl) pt_nil)) (by simp) ?_
           intro A833 S834 _ w836 H837 O838; clear H832 O798
           have O839 : Own w w836 [Chunk.row (Kd.int .u8) 5 w.heap.size S834 (.slice A833 (([(((files.getD i0.toNat z93).f1).getD j.toNat (0 : Int))]).length) (([(((files.getD i0.toNat z93).f1).getD j.toNat (0 : Int))]).length)) ([(((files.getD i0.toNat z93).f1).getD j.toNat (0 : Int))]), Chunk.row (Kd.int .u8) 5 w.heap.size Sr (.slice Aa bb.length ca) bb, Bk g571 [.string ((files.getD i0.toNat z93).f0), .slice A602 ((files.getD i0.toNat z93).f1.length) c603, J ((files.getD i0.toNat z93).f2)] 93, Bk g410 [.slice none 0 0, J 0, J 0, .bool false] 50, Bk g404 [J kd, .string nm, .string dest, J n, .slice Ay y.length cy] 55, Bk g398 [.slice Af files.length cf, J d.most, J fu, .bool d.down] 50] := O838
           clear O838
           refine gw_append (Kd.int .u8) 1 H837 O839 (want_none rfl) rfl (by decide) rfl Try.underlying28 gwinfo5 rfl (by decide) (by decide) rfl (H837.ev rfl) (H837.ev rfl) (Kd.R_reads' (O839.get 0 rfl)).2.2 (fun _ _ h => h) O839.below.size (by first | omega | (simp; omega)) ?_
           intro A840 c841 S842 _ w844 H845 O846; clear H837 O839
           have O847 : Own w w844 [Chunk.row (Kd.int .u8) 5 w.heap.size S834 (.slice A833 (([(((files.getD i0.toNat z93).f1).getD j.toNat (0 : Int))]).length) (([(((files.getD i0.toNat z93).f1).getD j.toNat (0 : Int))]).length)) ([(((files.getD i0.toNat z93).f1).getD j.toNat (0 : Int))]), Chunk.row (Kd.int .u8) 5 w.heap.size S842 (.slice A840 ((bb ++ [(((files.getD i0.toNat z93).f1).getD j.toNat (0 : Int))]).length) c841) (bb ++ [(((files.getD i0.toNat z93).f1).getD j.toNat (0 : Int))]), Bk g571 [.string ((files.getD i0.toNat z93).f0), .slice A602 ((files.getD i0.toNat z93).f1.length) c603, J ((files.getD i0.toNat z93).f2)] 93, Bk g410 [.slice none 0 0, J 0, J 0, .bool false] 50, Bk g404 [J kd, .string nm, .string dest, J n, .slice Ay y.length cy] 55, Bk g398 [.slice Af files.length cf, J d.most, J fu, .bool d.down] 50] := O846
           clear O846
           refine V H845 (op_assign rfl (H845.ev rfl)) ?_
           intro _ H849; clear H845
           refine wpList_nil ?_
           refine gw_blk ?_
           refine gw_nx (hK814 _ _ ?_)
           refine wp_region_lit ?_
           refine V H849 (op_move rfl (H849.ev rfl)) ?_
           intro _ H851; clear H849
           refine V H851 (op_add rfl (H851.ev rfl) (ev_c _ _) (by omega)) ?_
           intro _ H853; clear H851
           refine V H853 (op_assign rfl (H853.ev rfl)) ?_
           intro _ H855; clear H853
           refine wpList_nil ?_
           refine gw_nx ⟨_, ?_, j + 1, (bb ++ [(((files.getD i0.toNat z93).f1).getD j.toNat (0 : Int))]), A840, _, _, (H855.pick (t := 9) rfl (H855.pick (t := 8) rfl (H855.pick (t := 2) rfl (H855.pick (t := 3) rfl (H855.pick (t := 4) rfl (H855.pick (t := 7) rfl H855.nil)))))), O847.sel [1, 2, 3, 4, 5] (by decide), ?_, ?_, ?_, rfl⟩
           ·
            rw [hm799]; omega
           ·
            omega
           ·
            rw [take_one (by omega) (by omega), ← hbb]
           ·
            rw [List.length_append, List.length_singleton]; omega
          ·
           have H856 := H811.subst_ (d := 118) (b := false) rfl hb812
           clear H811
           (try simp only [decide_eq_false_iff_not, Int.not_lt] at hb812)
           refine wp_exit ?_
           refine gw_thx ?_
           refine gw_thx ?_
           refine gw_in ?_
           refine gw_nx (hK789 _ _ ?_)
           refine gw_seq fun K857 hK857 => ?_
           refine gw_seq fun K858 hK858 => ?_
           refine wp_region_lit ?_
           refine V H856 (op_assign rfl (ev_c _ _)) ?_
           intro _ H860; clear H856
           refine wpList_nil ?_
           refine gw_nx (hK858 _ _ ?_)
           refine wp_block ?_
           refine gw_loop (fun m_ a_ w_ => ∃ (k2 : Int) (b2 : List Int) (Ab : Option Addr) (cb : Nat) (Sq : Nat → Prop), Fr 186 a_ [(10, J k2), (8, .slice Ab b2.length cb), (2, .pointer (some ⟨g398, 0, none⟩)), (3, .pointer (some ⟨g404, 0, none⟩)), (4, .pointer (some ⟨g410, 0, none⟩)), (7, .pointer (some ⟨g571, 0, none⟩))] ∧ Own w w_ [Chunk.row (Kd.int .u8) 5 w.heap.size Sq (.slice Ab b2.length cb) b2, Bk g571 [.string ((files.getD i0.toNat z93).f0), .slice A602 ((files.getD i0.toNat z93).f1.length) c603, J ((files.getD i0.toNat z93).f2)] 93, Bk g410 [.slice none 0 0, J 0, J 0, .bool false] 50, Bk g404 [J kd, .string nm, .string dest, J n, .slice Ay y.length cy] 55, Bk g398 [.slice Af files.length cf, J d.most, J fu, .bool d.down] 50] ∧ (0 ≤ k2 ∧ k2 ≤ y.length) ∧ (b2 = (files.getD i0.toNat z93).f1 ++ y.take k2.toNat) ∧ ((b2.length : Int) = (files.getD i0.toNat z93).f1.length + k2) ∧ m_ = (y.length - k2.toNat)) ((y.length - (0 : Int).toNat)) ?_ ?_
           ·
            refine ⟨0, bb, Aa, _, _, (H860.pick (t := 10) rfl (H860.pick (t := 8) rfl (H860.pick (t := 2) rfl (H860.pick (t := 3) rfl (H860.pick (t := 4) rfl (H860.pick (t := 7) rfl H860.nil)))))), O798.sel [0, 1, 2, 3, 4] (by decide), ?_, ?_, ?_, rfl⟩
            ·
             omega
            ·
             rw [hbb, List.take_of_length_le (by omega)]; simp
            ·
             omega
           ·
            rintro m862 _ w864 ⟨k2, b2, Ab, cb, Sq, H865, O866, hk2, hb2, hbl2, hm867⟩
            refine gw_seq fun K868 hK868 => ?_
            refine gw_seq fun K869 hK869 => ?_
            refine wp_region_lit ?_
            refine V H865 (op_move rfl (H865.ev rfl)) ?_
            intro _ H871; clear H865
            refine V H871 (op_field (gwfld55_4 _ _) rfl (H871.ev rfl)) ?_
            intro _ H873; clear H871
            refine V H873 (op_load1 gwagg28 rfl (H873.ev rfl) (blk_at (O866.get 3 rfl) rfl)) ?_
            intro _ H875; clear H873
            refine V H875 (op_len Try.underlying28 rfl (H875.ev rfl)) ?_
            intro _ H877; clear H875
            refine V H877 (op_lss rfl (H877.ev rfl) (H877.ev rfl)) ?_
            intro _ H879; clear H877
            refine wpList_nil ?_
            refine gw_nx (hK869 _ _ ?_)
            refine gw_cond H879 rfl (fun hb880 => ?_) (fun hb880 => ?_)
            ·
             have H881 := H879.subst_ (d := 133) (b := true) rfl hb880
             clear H879
             (try simp only [decide_eq_true_eq] at hb880)
             refine wp_skip ?_
             refine gw_nx (hK868 _ _ ?_)
             refine gw_seq fun K882 hK882 => ?_
             refine wp_block ?_
             refine wp_region_lit ?_
             refine V H881 (op_move rfl (H881.ev rfl)) ?_
             intro _ H884; clear H881
             refine V H884 (op_field (gwfld55_4 _ _) rfl (H884.ev rfl)) ?_
             intro _ H886; clear H884
             refine V H886 (op_load1 gwagg28 rfl (H886.ev rfl) (blk_at (O866.get 3 rfl) rfl)) ?_
             intro _ H888; clear H886
             refine V H888 (op_move rfl (H888.ev rfl)) ?_
             intro _ H890; clear H888
             obtain ⟨ad891, cs894, hA892, hl895, hK896, hc893⟩ := Kd.C_get hy (0 : Int) k2 (by omega) (by omega)
             obtain rfl := id hK896
             clear hl895
             refine V H890 (op_index Try.underlying28 gwsiz5 rfl (H890.ev rfl) (H890.ev rfl) hA892 (⟨by omega, by omega⟩)) ?_
             intro _ H898; clear H890
             refine V H898 (op_load1 gwagg5 rfl (H898.ev rfl) (O866.cell0 (at0 hc893))) ?_
             intro _ H900; clear H898
             refine gw_lit (enc := Value.int .u8) (fun _ => rfl) (xs := [(y.getD k2.toNat (0 : Int))]) (e := 5) H900 O866 (want_none rfl) rfl (by decide) (op_bslice (by kernel_rfl) rfl (pt_cons (H900.ev rfl) pt_nil)) (by simp) ?_
             intro A901 S902 _ w904 H905 O906; clear H900 O866
             have O907 : Own w w904 [Chunk.row (Kd.int .u8) 5 w.heap.size S902 (.slice A901 (([(y.getD k2.toNat (0 : Int))]).length) (([(y.getD k2.toNat (0 : Int))]).length)) ([(y.getD k2.toNat (0 : Int))]), Chunk.row (Kd.int .u8) 5 w.heap.size Sq (.slice Ab b2.length cb) b2, Bk g571 [.string ((files.getD i0.toNat z93).f0), .slice A602 ((files.getD i0.toNat z93).f1.length) c603, J ((files.getD i0.toNat z93).f2)] 93, Bk g410 [.slice none 0 0, J 0, J 0, .bool false] 50, Bk g404 [J kd, .string nm, .string dest, J n, .slice Ay y.length cy] 55, Bk g398 [.slice Af files.length cf, J d.most, J fu, .bool d.down] 50] := O906
             clear O906
             refine gw_append (Kd.int .u8) 1 H905 O907 (want_none rfl) rfl (by decide) rfl Try.underlying28 gwinfo5 rfl (by decide) (by decide) rfl (H905.ev rfl) (H905.ev rfl) (Kd.R_reads' (O907.get 0 rfl)).2.2 (fun _ _ h => h) O907.below.size (by first | omega | (simp; omega)) ?_
             intro A908 c909 S910 _ w912 H913 O914; clear H905 O907
             have O915 : Own w w912 [Chunk.row (Kd.int .u8) 5 w.heap.size S902 (.slice A901 (([(y.getD k2.toNat (0 : Int))]).length) (([(y.getD k2.toNat (0 : Int))]).length)) ([(y.getD k2.toNat (0 : Int))]), Chunk.row (Kd.int .u8) 5 w.heap.size S910 (.slice A908 ((b2 ++ [(y.getD k2.toNat (0 : Int))]).length) c909) (b2 ++ [(y.getD k2.toNat (0 : Int))]), Bk g571 [.string ((files.getD i0.toNat z93).f0), .slice A602 ((files.getD i0.toNat z93).f1.length) c603, J ((files.getD i0.toNat z93).f2)] 93, Bk g410 [.slice none 0 0, J 0, J 0, .bool false] 50, Bk g404 [J kd, .string nm, .string dest, J n, .slice Ay y.length cy] 55, Bk g398 [.slice Af files.length cf, J d.most, J fu, .bool d.down] 50] := O914
             clear O914
             refine V H913 (op_assign rfl (H913.ev rfl)) ?_
             intro _ H917; clear H913
             refine wpList_nil ?_
             refine gw_blk ?_
             refine gw_nx (hK882 _ _ ?_)
             refine wp_region_lit ?_
             refine V H917 (op_move rfl (H917.ev rfl)) ?_
             intro _ H919; clear H917
             refine V H919 (op_add rfl (H919.ev rfl) (ev_c _ _) (by omega)) ?_
             intro _ H921; clear H919
             refine V H921 (op_assign rfl (H921.ev rfl)) ?_
             intro _ H923; clear H921
             refine wpList_nil ?_
             refine gw_nx ⟨_, ?_, k2 + 1, (b2 ++ [(y.getD k2.toNat (0 : Int))]), A908, _, _, (H923.pick (t := 10) rfl (H923.pick (t := 8) rfl (H923.pick (t := 2) rfl (H923.pick (t := 3) rfl (H923.pick (t := 4) rfl (H923.pick (t := 7) rfl H923.nil)))))), O915.sel [1, 2, 3, 4, 5] (by decide), ?_, ?_, ?_, rfl⟩
             ·
              rw [hm867]; omega
             ·
              omega
             ·
              rw [take_one (by omega) (by omega), ← List.append_assoc, ← hb2]
             ·
              rw [List.length_append, List.length_singleton]; omega
            ·
             have H924 := H879.subst_ (d := 133) (b := false) rfl hb880
             clear H879
             (try simp only [decide_eq_false_iff_not, Int.not_lt] at hb880)
             refine wp_exit ?_
             refine gw_thx ?_
             refine gw_thx ?_
             refine gw_in ?_
             refine gw_nx (hK857 _ _ ?_)
             refine wp_region_lit ?_
             refine V H924 (op_move rfl (H924.ev rfl)) ?_
             intro _ H926; clear H924
             refine V H926 (op_field (gwfld93_1 _ _) rfl (H926.ev rfl)) ?_
             intro _ H928; clear H926
             refine gw_set 1 H928 O866 rfl (want_none rfl) rfl (op_store1 gwsiz28 rfl (H928.ev rfl) (H928.ev rfl) rfl (blk_at (O866.get 1 rfl) rfl) (blkf (O866.get 1 rfl))) ?_
             intro _ w931 H930 O932; clear H928 O866
             have O933 : Own w w931 [Chunk.row (Kd.int .u8) 5 w.heap.size Sq (.slice Ab b2.length cb) b2, Bk g571 [.string ((files.getD i0.toNat z93).f0), .slice Ab b2.length cb, J ((files.getD i0.toNat z93).f2)] 93, Bk g410 [.slice none 0 0, J 0, J 0, .bool false] 50, Bk g404 [J kd, .string nm, .string dest, J n, .slice Ay y.length cy] 55, Bk g398 [.slice Af files.length cf, J d.most, J fu, .bool d.down] 50] := O932
             clear O932
             refine wpList_nil ?_
             refine gw_blk ?_
             refine gw_nx (hK766 _ _ ?_)
             refine gw_seq fun K934 hK934 => ?_
             refine wp_region_lit ?_
             refine V H930 (op_loadn gwagg50 gwsiz50 rfl (H930.ev rfl) (O933.get 4 rfl) rfl rfl) ?_
             intro _ H936; clear H930
             refine V H936 (op_loadn gwagg93 gwsiz93 rfl (H936.ev rfl) (O933.get 1 rfl) rfl rfl) ?_
             intro _ H938; clear H936
             refine gw_call H938 (want_none rfl) rfl (by decide) (op_callL Try.func56 (by kernel_rfl) rfl rfl (ar_cons (H938.ev rfl) (ar_cons (H938.ev rfl) ar_nil))) (with_own Af cf files d.most fu d.down ((files.getD i0.toNat z93).f0) Ab cb b2 ((files.getD i0.toNat z93).f2) hP 0 rfl O933 (F_up O933 hP hF _) hcf (Kd.F_mono (Kd.N_F (Kd.R_N (O933.get 0 rfl))) (fun k hk => .inr hk)) (row_cap (O933.get 0 rfl)) hlf) ?_
             rintro e942 w943 ⟨A939, c940, S941, rfl, hb944⟩
             refine ⟨_, rfl, fun _ H946 => ?_⟩
             have O947 := O933.calls 0 rfl hb944
             clear H938 O933 hb944
             have O949 : Own w w943 [Chunk.prow w P k93 93 w.heap.size S941 (.slice A939 ((withL (⟨(files.getD i0.toNat z93).f0, b2, (files.getD i0.toNat z93).f2⟩ : S93) files false).length) c940) (withL (⟨(files.getD i0.toNat z93).f0, b2, (files.getD i0.toNat z93).f2⟩ : S93) files false), Bk g571 [.string ((files.getD i0.toNat z93).f0), .slice Ab b2.length cb, J ((files.getD i0.toNat z93).f2)] 93, Bk g410 [.slice none 0 0, J 0, J 0, .bool false] 50, Bk g404 [J kd, .string nm, .string dest, J n, .slice Ay y.length cy] 55, Bk g398 [.slice Af files.length cf, J d.most, J fu, .bool d.down] 50] := O947
             clear O947
             refine gw_setn 2 H946 O949 rfl (want_none rfl) rfl (op_storen gwsiz50 rfl (H946.ev rfl) (H946.ev rfl) (O949.get 2 rfl) rfl (by simp) (by simp [Value.oneCell'])) ?_
             intro _ w952 H951 O953; clear H946 O949
             have O954 : Own w w952 [Chunk.prow w P k93 93 w.heap.size S941 (.slice A939 ((withL (⟨(files.getD i0.toNat z93).f0, b2, (files.getD i0.toNat z93).f2⟩ : S93) files false).length) c940) (withL (⟨(files.getD i0.toNat z93).f0, b2, (files.getD i0.toNat z93).f2⟩ : S93) files false), Bk g571 [.string ((files.getD i0.toNat z93).f0), .slice Ab b2.length cb, J ((files.getD i0.toNat z93).f2)] 93, Bk g410 [.slice A939 ((withL (⟨(files.getD i0.toNat z93).f0, b2, (files.getD i0.toNat z93).f2⟩ : S93) files false).length) c940, J d.most, J fu, .bool d.down] 50, Bk g404 [J kd, .string nm, .string dest, J n, .slice Ay y.length cy] 55, Bk g398 [.slice Af files.length cf, J d.most, J fu, .bool d.down] 50] := O953
             clear O953
             refine V H951 (op_assign rfl (ev_c _ _)) ?_
             intro _ H956; clear H951
             refine wpList_nil ?_
             refine gw_nx (hK934 _ _ ?_)
             refine wp_ret ?_
             refine gw_rets2 H956 rfl (rv_celln H956 rfl gwagg50 gwsiz50 (O954.get 2 rfl) rfl) (rv_tmp H956 rfl) ?_
             have ef_ : fu = decF d.fuse := hfud.1
             rw [ef_]
             exact do_new hP (((does_go (f := ofS (files.getD i0.toNat z93)) hdn (.inr ⟨by omega, hgd, fun h_ => by omega, hn4, fun h_ => (show ¬ (n < 0 ∨ ((files.getD i0.toNat z93).f1.length : Int) < n) by omega)⟩)).trans (step_on (by omega) hfu.1)).trans (congrArg (·, (0 : Int)) (ks2 (by omega)))) (with_upd (d := d) (h := fun f => { f with b := f.b ++ y }) hd hw hgd (by rw [show b2 = (files.getD i0.toNat z93).f1 ++ y by rw [hb2, List.take_of_length_le (by omega)]]; rfl) hxn) O954 0 rfl
        ·
         have H957 := H776.subst_ (d := 111) (b := false) rfl hb777
         clear H776
         (try simp only [decide_eq_false_iff_not] at hb777)
         have hk2 := hb777
         refine gw_seq fun K958 hK958 => ?_
         refine wp_region_lit ?_
         refine V H957 (op_eqi rfl (H957.ev rfl) (ev_c _ _)) ?_
         intro _ H960; clear H957
         refine V H960 (op_assign rfl (H960.ev rfl)) ?_
         intro _ H962; clear H960
         refine wpList_nil ?_
         refine gw_nx (hK958 _ _ ?_)
         refine gw_cond H962 rfl (fun hb963 => ?_) (fun hb963 => ?_)
         ·
          have H964 := H962.subst_ (d := 146) (b := true) rfl hb963
          clear H962
          (try simp only [decide_eq_true_eq] at hb963)
          have hk3 := hb963
          refine wp_region_lit ?_
          refine V H964 (op_field (gwfld93_1 _ _) rfl (H964.ev rfl)) ?_
          intro _ H966; clear H964
          refine V H966 (op_load1 gwagg28 rfl (H966.ev rfl) (blk_at (O765.get 0 rfl) rfl)) ?_
          intro _ H968; clear H966
          refine V H968 (op_len Try.underlying28 rfl (H968.ev rfl)) ?_
          intro _ H970; clear H968
          refine V H970 (op_field (gwfld93_2 _ _) rfl (H970.ev rfl)) ?_
          intro _ H972; clear H970
          refine gw_set 0 H972 O765 rfl (want_none rfl) rfl (op_store1 gwsiz3 rfl (H972.ev rfl) (H972.ev rfl) rfl (blk_at (O765.get 0 rfl) rfl) (blkf (O765.get 0 rfl))) ?_
          intro _ w975 H974 O976; clear H972 O765
          have O977 : Own w w975 [Bk g571 [.string ((files.getD i0.toNat z93).f0), .slice A602 ((files.getD i0.toNat z93).f1.length) c603, J (((files.getD i0.toNat z93).f1.length) : Int)] 93, Bk g410 [.slice none 0 0, J 0, J 0, .bool false] 50, Bk g404 [J kd, .string nm, .string dest, J n, .slice Ay y.length cy] 55, Bk g398 [.slice Af files.length cf, J d.most, J fu, .bool d.down] 50] := O976
          clear O976
          refine wpList_nil ?_
          refine gw_blk ?_
          refine gw_nx (hK766 _ _ ?_)
          refine gw_seq fun K978 hK978 => ?_
          refine wp_region_lit ?_
          refine V H974 (op_loadn gwagg50 gwsiz50 rfl (H974.ev rfl) (O977.get 3 rfl) rfl rfl) ?_
          intro _ H980; clear H974
          refine V H980 (op_loadn gwagg93 gwsiz93 rfl (H980.ev rfl) (O977.get 0 rfl) rfl rfl) ?_
          intro _ H982; clear H980
          have O986 := O977.void
          clear O977
          have O988 : Own w w975 [Chunk.void, Bk g571 [.string ((files.getD i0.toNat z93).f0), .slice A602 ((files.getD i0.toNat z93).f1.length) c603, J (((files.getD i0.toNat z93).f1.length) : Int)] 93, Bk g410 [.slice none 0 0, J 0, J 0, .bool false] 50, Bk g404 [J kd, .string nm, .string dest, J n, .slice Ay y.length cy] 55, Bk g398 [.slice Af files.length cf, J d.most, J fu, .bool d.down] 50] := O986
          clear O986
          refine gw_call H982 (want_none rfl) rfl (by decide) (op_callL Try.func56 (by kernel_rfl) rfl rfl (ar_cons (H982.ev rfl) (ar_cons (H982.ev rfl) ar_nil))) (with_own Af cf files d.most fu d.down ((files.getD i0.toNat z93).f0) A602 c603 (files.getD i0.toNat z93).f1 (((files.getD i0.toNat z93).f1.length) : Int) hP 0 rfl O988 (F_up O988 hP hF _) hcf (F_up O988 hP hC605 _) hl604 hlf) ?_
          rintro e989 w990 ⟨A983, c984, S985, rfl, hb991⟩
          refine ⟨_, rfl, fun _ H993 => ?_⟩
          have O994 := O988.calls 0 rfl hb991
          clear H982 O988 hb991
          have O996 : Own w w990 [Chunk.prow w P k93 93 w.heap.size S985 (.slice A983 ((withL (⟨(files.getD i0.toNat z93).f0, (files.getD i0.toNat z93).f1, (((files.getD i0.toNat z93).f1.length) : Int)⟩ : S93) files false).length) c984) (withL (⟨(files.getD i0.toNat z93).f0, (files.getD i0.toNat z93).f1, (((files.getD i0.toNat z93).f1.length) : Int)⟩ : S93) files false), Bk g571 [.string ((files.getD i0.toNat z93).f0), .slice A602 ((files.getD i0.toNat z93).f1.length) c603, J (((files.getD i0.toNat z93).f1.length) : Int)] 93, Bk g410 [.slice none 0 0, J 0, J 0, .bool false] 50, Bk g404 [J kd, .string nm, .string dest, J n, .slice Ay y.length cy] 55, Bk g398 [.slice Af files.length cf, J d.most, J fu, .bool d.down] 50] := O994
          clear O994
          refine gw_setn 2 H993 O996 rfl (want_none rfl) rfl (op_storen gwsiz50 rfl (H993.ev rfl) (H993.ev rfl) (O996.get 2 rfl) rfl (by simp) (by simp [Value.oneCell'])) ?_
          intro _ w999 H998 O1000; clear H993 O996
          have O1001 : Own w w999 [Chunk.prow w P k93 93 w.heap.size S985 (.slice A983 ((withL (⟨(files.getD i0.toNat z93).f0, (files.getD i0.toNat z93).f1, (((files.getD i0.toNat z93).f1.length) : Int)⟩ : S93) files false).length) c984) (withL (⟨(files.getD i0.toNat z93).f0, (files.getD i0.toNat z93).f1, (((files.getD i0.toNat z93).f1.length) : Int)⟩ : S93) files false), Bk g571 [.string ((files.getD i0.toNat z93).f0), .slice A602 ((files.getD i0.toNat z93).f1.length) c603, J (((files.getD i0.toNat z93).f1.length) : Int)] 93, Bk g410 [.slice A983 ((withL (⟨(files.getD i0.toNat z93).f0, (files.getD i0.toNat z93).f1, (((files.getD i0.toNat z93).f1.length) : Int)⟩ : S93) files false).length) c984, J d.most, J fu, .bool d.down] 50, Bk g404 [J kd, .string nm, .string dest, J n, .slice Ay y.length cy] 55, Bk g398 [.slice Af files.length cf, J d.most, J fu, .bool d.down] 50] := O1000
          clear O1000
          refine V H998 (op_assign rfl (ev_c _ _)) ?_
          intro _ H1003; clear H998
          refine wpList_nil ?_
          refine gw_nx (hK978 _ _ ?_)
          refine wp_ret ?_
          refine gw_rets2 H1003 rfl (rv_celln H1003 rfl gwagg50 gwsiz50 (O1001.get 2 rfl) rfl) (rv_tmp H1003 rfl) ?_
          have ef_ : fu = decF d.fuse := hfud.1
          rw [ef_]
          exact do_new hP (((does_go (f := ofS (files.getD i0.toNat z93)) hdn (.inr ⟨by omega, hgd, fun h_ => by omega, hn4, fun h_ => (show ¬ (n < 0 ∨ ((files.getD i0.toNat z93).f1.length : Int) < n) by omega)⟩)).trans (step_on (by omega) hfu.1)).trans (congrArg (·, (0 : Int)) (ks3 (by omega)))) (with_upd (d := d) (h := fun f => { f with sf := f.b.length }) hd hw hgd rfl hxn) O1001 0 rfl
         ·
          have H1004 := H962.subst_ (d := 146) (b := false) rfl hb963
          clear H962
          (try simp only [decide_eq_false_iff_not] at hb963)
          have hk3 := hb963
          refine gw_seq fun K1005 hK1005 => ?_
          refine wp_region_lit ?_
          refine V H1004 (op_eqi rfl (H1004.ev rfl) (ev_c _ _)) ?_
          intro _ H1007; clear H1004
          refine V H1007 (op_assign rfl (H1007.ev rfl)) ?_
          intro _ H1009; clear H1007
          refine wpList_nil ?_
          refine gw_nx (hK1005 _ _ ?_)
          refine gw_cond H1009 rfl (fun hb1010 => ?_) (fun hb1010 => ?_)
          ·
           have H1011 := H1009.subst_ (d := 152) (b := true) rfl hb1010
           clear H1009
           (try simp only [decide_eq_true_eq] at hb1010)
           have hk4 := hb1010
           refine gw_seq fun K1012 hK1012 => ?_
           refine wp_region_lit ?_
           refine V H1011 (op_loadn gwagg50 gwsiz50 rfl (H1011.ev rfl) (O765.get 3 rfl) rfl rfl) ?_
           intro _ H1014; clear H1011
           refine V H1014 (op_field (gwfld55_1 _ _) rfl (H1014.ev rfl)) ?_
           intro _ H1016; clear H1014
           refine V H1016 (op_load1 gwagg9 rfl (H1016.ev rfl) (blk_at (O765.get 2 rfl) rfl)) ?_
           intro _ H1018; clear H1016
           refine gw_call H1018 (want_none rfl) rfl (by decide) (op_callL Try.func55 (by kernel_rfl) rfl rfl (ar_cons (H1018.ev rfl) (ar_cons (H1018.ev rfl) ar_nil))) (without_own Af cf files d.most fu d.down nm hP O765 hF hcf hlf) ?_
           rintro e1023 w1024 ⟨A1019, c1020, S1021, rfl, hb1025⟩
           refine ⟨_, rfl, fun _ H1027 => ?_⟩
           have O1028 := O765.fresh hb1025
           clear H1018 O765 hb1025
           have O1030 : Own w w1024 [Chunk.prow w P k93 93 w.heap.size S1021 (.slice A1019 ((delR nm files).length) c1020) (delR nm files), Bk g571 [.string ((files.getD i0.toNat z93).f0), .slice A602 ((files.getD i0.toNat z93).f1.length) c603, J ((files.getD i0.toNat z93).f2)] 93, Bk g410 [.slice none 0 0, J 0, J 0, .bool false] 50, Bk g404 [J kd, .string nm, .string dest, J n, .slice Ay y.length cy] 55, Bk g398 [.slice Af files.length cf, J d.most, J fu, .bool d.down] 50] := O1028
           clear O1028
           refine gw_setn 4 H1027 O1030 rfl (want_none rfl) rfl (op_storen gwsiz50 rfl (H1027.ev rfl) (H1027.ev rfl) (O1030.get 4 rfl) rfl (by simp) (by simp [Value.oneCell'])) ?_
           intro _ w1033 H1032 O1034; clear H1027 O1030
           have O1035 : Own w w1033 [Chunk.prow w P k93 93 w.heap.size S1021 (.slice A1019 ((delR nm files).length) c1020) (delR nm files), Bk g571 [.string ((files.getD i0.toNat z93).f0), .slice A602 ((files.getD i0.toNat z93).f1.length) c603, J ((files.getD i0.toNat z93).f2)] 93, Bk g410 [.slice none 0 0, J 0, J 0, .bool false] 50, Bk g404 [J kd, .string nm, .string dest, J n, .slice Ay y.length cy] 55, Bk g398 [.slice A1019 ((delR nm files).length) c1020, J d.most, J fu, .bool d.down] 50] := O1034
           clear O1034
           refine wpList_nil ?_
           refine gw_nx (hK1012 _ _ ?_)
           refine wp_region_lit ?_
           refine V H1032 (op_field (gwfld55_2 _ _) rfl (H1032.ev rfl)) ?_
           intro _ H1037; clear H1032
           refine V H1037 (op_load1 gwagg9 rfl (H1037.ev rfl) (blk_at (O1035.get 3 rfl) rfl)) ?_
           intro _ H1039; clear H1037
           refine V H1039 (op_field (gwfld93_0 _ _) rfl (H1039.ev rfl)) ?_
           intro _ H1041; clear H1039
           refine gw_set 1 H1041 O1035 rfl (want_none rfl) rfl (op_store1 gwsiz9 rfl (H1041.ev rfl) (H1041.ev rfl) rfl (blk_at (O1035.get 1 rfl) rfl) (blkf (O1035.get 1 rfl))) ?_
           intro _ w1044 H1043 O1045; clear H1041 O1035
           have O1046 : Own w w1044 [Chunk.prow w P k93 93 w.heap.size S1021 (.slice A1019 ((delR nm files).length) c1020) (delR nm files), Bk g571 [.string dest, .slice A602 ((files.getD i0.toNat z93).f1.length) c603, J ((files.getD i0.toNat z93).f2)] 93, Bk g410 [.slice none 0 0, J 0, J 0, .bool false] 50, Bk g404 [J kd, .string nm, .string dest, J n, .slice Ay y.length cy] 55, Bk g398 [.slice A1019 ((delR nm files).length) c1020, J d.most, J fu, .bool d.down] 50] := O1045
           clear O1045
           refine wpList_nil ?_
           refine gw_blk ?_
           refine gw_nx (hK766 _ _ ?_)
           refine gw_seq fun K1047 hK1047 => ?_
           refine wp_region_lit ?_
           refine V H1043 (op_loadn gwagg50 gwsiz50 rfl (H1043.ev rfl) (O1046.get 4 rfl) rfl rfl) ?_
           intro _ H1049; clear H1043
           refine V H1049 (op_loadn gwagg93 gwsiz93 rfl (H1049.ev rfl) (O1046.get 1 rfl) rfl rfl) ?_
           intro _ H1051; clear H1049
           refine gw_call H1051 (want_none rfl) rfl (by decide) (op_callL Try.func56 (by kernel_rfl) rfl rfl (ar_cons (H1051.ev rfl) (ar_cons (H1051.ev rfl) ar_nil))) (with_own A1019 c1020 (delR nm files) d.most fu d.down dest A602 c603 (files.getD i0.toNat z93).f1 ((files.getD i0.toNat z93).f2) hP 0 rfl O1046 (Kd.N_F (prow_N O1046 hP (O1046.get 0 rfl))) (prow_slice O1046 hP (O1046.get 0 rfl)).2 (F_up O1046 hP hC605 _) hl604 (Nat.le_trans (List.length_filter_le _ _) hlf)) ?_
           rintro e1055 w1056 ⟨A1052, c1053, S1054, rfl, hb1057⟩
           refine ⟨_, rfl, fun _ H1059 => ?_⟩
           have O1060 := O1046.calls 0 rfl hb1057
           clear H1051 O1046 hb1057
           have O1062 : Own w w1056 [Chunk.prow w P k93 93 w.heap.size S1054 (.slice A1052 ((withL (⟨dest, (files.getD i0.toNat z93).f1, (files.getD i0.toNat z93).f2⟩ : S93) (delR nm files) false).length) c1053) (withL (⟨dest, (files.getD i0.toNat z93).f1, (files.getD i0.toNat z93).f2⟩ : S93) (delR nm files) false), Bk g571 [.string dest, .slice A602 ((files.getD i0.toNat z93).f1.length) c603, J ((files.getD i0.toNat z93).f2)] 93, Bk g410 [.slice none 0 0, J 0, J 0, .bool false] 50, Bk g404 [J kd, .string nm, .string dest, J n, .slice Ay y.length cy] 55, Bk g398 [.slice A1019 ((delR nm files).length) c1020, J d.most, J fu, .bool d.down] 50] := O1060
           clear O1060
           refine gw_setn 2 H1059 O1062 rfl (want_none rfl) rfl (op_storen gwsiz50 rfl (H1059.ev rfl) (H1059.ev rfl) (O1062.get 2 rfl) rfl (by simp) (by simp [Value.oneCell'])) ?_
           intro _ w1065 H1064 O1066; clear H1059 O1062
           have O1067 : Own w w1065 [Chunk.prow w P k93 93 w.heap.size S1054 (.slice A1052 ((withL (⟨dest, (files.getD i0.toNat z93).f1, (files.getD i0.toNat z93).f2⟩ : S93) (delR nm files) false).length) c1053) (withL (⟨dest, (files.getD i0.toNat z93).f1, (files.getD i0.toNat z93).f2⟩ : S93) (delR nm files) false), Bk g571 [.string dest, .slice A602 ((files.getD i0.toNat z93).f1.length) c603, J ((files.getD i0.toNat z93).f2)] 93, Bk g410 [.slice A1052 ((withL (⟨dest, (files.getD i0.toNat z93).f1, (files.getD i0.toNat z93).f2⟩ : S93) (delR nm files) false).length) c1053, J d.most, J fu, .bool d.down] 50, Bk g404 [J kd, .string nm, .string dest, J n, .slice Ay y.length cy] 55, Bk g398 [.slice A1019 ((delR nm files).length) c1020, J d.most, J fu, .bool d.down] 50] := O1066
           clear O1066
           refine V H1064 (op_assign rfl (ev_c _ _)) ?_
           intro _ H1069; clear H1064
           refine wpList_nil ?_
           refine gw_nx (hK1047 _ _ ?_)
           refine wp_ret ?_
           refine gw_rets2 H1069 rfl (rv_celln H1069 rfl gwagg50 gwsiz50 (O1067.get 2 rfl) rfl) (rv_tmp H1069 rfl) ?_
           have ef_ : fu = decF d.fuse := hfud.1
           rw [ef_]
           exact do_newE hP (((does_go (f := ofS (files.getD i0.toNat z93)) hdn (.inr ⟨by omega, hgd, fun h_ => by omega, hn4, fun h_ => (show ¬ (n < 0 ∨ ((files.getD i0.toNat z93).f1.length : Int) < n) by omega)⟩)).trans (step_on (by omega) hfu.1)).trans (congrArg (·, (0 : Int)) (ks4 (by omega)))) (ren_keeps _ _ _ _) (with_ren hd hw hgd rfl) O1067 0 rfl
          ·
           have H1070 := H1009.subst_ (d := 152) (b := false) rfl hb1010
           clear H1009
           (try simp only [decide_eq_false_iff_not] at hb1010)
           have hk4 := hb1010
           refine gw_seq fun K1071 hK1071 => ?_
           refine wp_region_lit ?_
           refine V H1070 (op_eqi rfl (H1070.ev rfl) (ev_c _ _)) ?_
           intro _ H1073; clear H1070
           refine V H1073 (op_assign rfl (H1073.ev rfl)) ?_
           intro _ H1075; clear H1073
           refine wpList_nil ?_
           refine gw_nx (hK1071 _ _ ?_)
           refine gw_cond H1075 rfl (fun hb1076 => ?_) (fun hb1076 => ?_)
           ·
            have H1077 := H1075.subst_ (d := 161) (b := true) rfl hb1076
            clear H1075
            (try simp only [decide_eq_true_eq] at hb1076)
            have hk5 := hb1076
            refine gw_seq fun K1078 hK1078 => ?_
            refine wp_region_lit ?_
            refine V H1077 (op_field (gwfld93_1 _ _) rfl (H1077.ev rfl)) ?_
            intro _ H1080; clear H1077
            refine V H1080 (op_load1 gwagg28 rfl (H1080.ev rfl) (blk_at (O765.get 0 rfl) rfl)) ?_
            intro _ H1082; clear H1080
            refine V H1082 (op_field (gwfld55_3 _ _) rfl (H1082.ev rfl)) ?_
            intro _ H1084; clear H1082
            refine V H1084 (op_load1 gwagg3 rfl (H1084.ev rfl) (blk_at (O765.get 2 rfl) rfl)) ?_
            intro _ H1086; clear H1084
            obtain ⟨hr1087, hc1088, hC1089⟩ := cut_hi (P := Try.prog) (d := (Kd.int .u8)) (t := 28) (e := 5) Try.underlying28 gwsiz5 A602 c603 ((files.getD i0.toNat z93).f1) hl604 n (by omega) (by omega)
            refine V H1086 (op_cut Try.underlying28 hr1087 rfl (H1086.ev rfl) rfl (some_ev (H1086.ev rfl))) ?_
            intro _ H1091; clear H1086
            refine V H1091 (op_field (gwfld93_1 _ _) rfl (H1091.ev rfl)) ?_
            intro _ H1093; clear H1091
            refine gw_set 0 H1093 O765 rfl (want_none rfl) rfl (op_store1 gwsiz28 rfl (H1093.ev rfl) (H1093.ev rfl) rfl (blk_at (O765.get 0 rfl) rfl) (blkf (O765.get 0 rfl))) ?_
            intro _ w1096 H1095 O1097; clear H1093 O765
            have O1098 : Own w w1096 [Bk g571 [.string ((files.getD i0.toNat z93).f0), .slice A602 ((((files.getD i0.toNat z93).f1).take n.toNat).length) c603, J ((files.getD i0.toNat z93).f2)] 93, Bk g410 [.slice none 0 0, J 0, J 0, .bool false] 50, Bk g404 [J kd, .string nm, .string dest, J n, .slice Ay y.length cy] 55, Bk g398 [.slice Af files.length cf, J d.most, J fu, .bool d.down] 50] := O1097
            clear O1097
            refine wpList_nil ?_
            refine gw_nx (hK1078 _ _ ?_)
            refine gw_seq fun K1099 hK1099 => ?_
            refine wp_region_lit ?_
            refine V H1095 (op_field (gwfld93_2 _ _) rfl (H1095.ev rfl)) ?_
            intro _ H1101; clear H1095
            refine V H1101 (op_load1 gwagg3 rfl (H1101.ev rfl) (blk_at (O1098.get 0 rfl) rfl)) ?_
            intro _ H1103; clear H1101
            refine V H1103 (op_field (gwfld55_3 _ _) rfl (H1103.ev rfl)) ?_
            intro _ H1105; clear H1103
            refine V H1105 (op_load1 gwagg3 rfl (H1105.ev rfl) (blk_at (O1098.get 2 rfl) rfl)) ?_
            intro _ H1107; clear H1105
            refine V H1107 (op_gtr rfl (H1107.ev rfl) (H1107.ev rfl)) ?_
            intro _ H1109; clear H1107
            refine wpList_nil ?_
            refine gw_nx (hK1099 _ _ ?_)
            refine gw_cond H1109 rfl (fun hb1110 => ?_) (fun hb1110 => ?_)
            ·
             have H1111 := H1109.subst_ (d := 173) (b := true) rfl hb1110
             clear H1109
             (try simp only [decide_eq_true_eq] at hb1110)
             refine wp_region_lit ?_
             refine V H1111 (op_field (gwfld55_3 _ _) rfl (H1111.ev rfl)) ?_
             intro _ H1113; clear H1111
             refine V H1113 (op_load1 gwagg3 rfl (H1113.ev rfl) (blk_at (O1098.get 2 rfl) rfl)) ?_
             intro _ H1115; clear H1113
             refine V H1115 (op_field (gwfld93_2 _ _) rfl (H1115.ev rfl)) ?_
             intro _ H1117; clear H1115
             refine gw_set 0 H1117 O1098 rfl (want_none rfl) rfl (op_store1 gwsiz3 rfl (H1117.ev rfl) (H1117.ev rfl) rfl (blk_at (O1098.get 0 rfl) rfl) (blkf (O1098.get 0 rfl))) ?_
             intro _ w1120 H1119 O1121; clear H1117 O1098
             have O1122 : Own w w1120 [Bk g571 [.string ((files.getD i0.toNat z93).f0), .slice A602 ((((files.getD i0.toNat z93).f1).take n.toNat).length) c603, J n] 93, Bk g410 [.slice none 0 0, J 0, J 0, .bool false] 50, Bk g404 [J kd, .string nm, .string dest, J n, .slice Ay y.length cy] 55, Bk g398 [.slice Af files.length cf, J d.most, J fu, .bool d.down] 50] := O1121
             clear O1121
             refine wpList_nil ?_
             refine gw_blk ?_
             refine gw_nx (hK766 _ _ ?_)
             refine gw_seq fun K1123 hK1123 => ?_
             refine wp_region_lit ?_
             refine V H1119 (op_loadn gwagg50 gwsiz50 rfl (H1119.ev rfl) (O1122.get 3 rfl) rfl rfl) ?_
             intro _ H1125; clear H1119
             refine V H1125 (op_loadn gwagg93 gwsiz93 rfl (H1125.ev rfl) (O1122.get 0 rfl) rfl rfl) ?_
             intro _ H1127; clear H1125
             have O1131 := O1122.void
             clear O1122
             have O1133 : Own w w1120 [Chunk.void, Bk g571 [.string ((files.getD i0.toNat z93).f0), .slice A602 ((((files.getD i0.toNat z93).f1).take n.toNat).length) c603, J n] 93, Bk g410 [.slice none 0 0, J 0, J 0, .bool false] 50, Bk g404 [J kd, .string nm, .string dest, J n, .slice Ay y.length cy] 55, Bk g398 [.slice Af files.length cf, J d.most, J fu, .bool d.down] 50] := O1131
             clear O1131
             refine gw_call H1127 (want_none rfl) rfl (by decide) (op_callL Try.func56 (by kernel_rfl) rfl rfl (ar_cons (H1127.ev rfl) (ar_cons (H1127.ev rfl) ar_nil))) (with_own Af cf files d.most fu d.down ((files.getD i0.toNat z93).f0) A602 c603 (((files.getD i0.toNat z93).f1).take n.toNat) n hP 0 rfl O1133 (F_up O1133 hP hF _) hcf (F_up O1133 hP (Kd.F_take (m := n.toNat) hC605 (by omega)) _) hc1088 hlf) ?_
             rintro e1134 w1135 ⟨A1128, c1129, S1130, rfl, hb1136⟩
             refine ⟨_, rfl, fun _ H1138 => ?_⟩
             have O1139 := O1133.calls 0 rfl hb1136
             clear H1127 O1133 hb1136
             have O1141 : Own w w1135 [Chunk.prow w P k93 93 w.heap.size S1130 (.slice A1128 ((withL (⟨(files.getD i0.toNat z93).f0, (((files.getD i0.toNat z93).f1).take n.toNat), n⟩ : S93) files false).length) c1129) (withL (⟨(files.getD i0.toNat z93).f0, (((files.getD i0.toNat z93).f1).take n.toNat), n⟩ : S93) files false), Bk g571 [.string ((files.getD i0.toNat z93).f0), .slice A602 ((((files.getD i0.toNat z93).f1).take n.toNat).length) c603, J n] 93, Bk g410 [.slice none 0 0, J 0, J 0, .bool false] 50, Bk g404 [J kd, .string nm, .string dest, J n, .slice Ay y.length cy] 55, Bk g398 [.slice Af files.length cf, J d.most, J fu, .bool d.down] 50] := O1139
             clear O1139
             refine gw_setn 2 H1138 O1141 rfl (want_none rfl) rfl (op_storen gwsiz50 rfl (H1138.ev rfl) (H1138.ev rfl) (O1141.get 2 rfl) rfl (by simp) (by simp [Value.oneCell'])) ?_
             intro _ w1144 H1143 O1145; clear H1138 O1141
             have O1146 : Own w w1144 [Chunk.prow w P k93 93 w.heap.size S1130 (.slice A1128 ((withL (⟨(files.getD i0.toNat z93).f0, (((files.getD i0.toNat z93).f1).take n.toNat), n⟩ : S93) files false).length) c1129) (withL (⟨(files.getD i0.toNat z93).f0, (((files.getD i0.toNat z93).f1).take n.toNat), n⟩ : S93) files false), Bk g571 [.string ((files.getD i0.toNat z93).f0), .slice A602 ((((files.getD i0.toNat z93).f1).take n.toNat).length) c603, J n] 93, Bk g410 [.slice A1128 ((withL (⟨(files.getD i0.toNat z93).f0, (((files.getD i0.toNat z93).f1).take n.toNat), n⟩ : S93) files false).length) c1129, J d.most, J fu, .bool d.down] 50, Bk g404 [J kd, .string nm, .string dest, J n, .slice Ay y.length cy] 55, Bk g398 [.slice Af files.length cf, J d.most, J fu, .bool d.down] 50] := O1145
             clear O1145
             refine V H1143 (op_assign rfl (ev_c _ _)) ?_
             intro _ H1148; clear H1143
             refine wpList_nil ?_
             refine gw_nx (hK1123 _ _ ?_)
             refine wp_ret ?_
             refine gw_rets2 H1148 rfl (rv_celln H1148 rfl gwagg50 gwsiz50 (O1146.get 2 rfl) rfl) (rv_tmp H1148 rfl) ?_
             have ef_ : fu = decF d.fuse := hfud.1
             rw [ef_]
             exact do_new hP (((does_go (f := ofS (files.getD i0.toNat z93)) hdn (.inr ⟨by omega, hgd, fun h_ => by omega, hn4, fun h_ => (show ¬ (n < 0 ∨ ((files.getD i0.toNat z93).f1.length : Int) < n) by omega)⟩)).trans (step_on (by omega) hfu.1)).trans (congrArg (·, (0 : Int)) (ks5 (by omega)))) (with_upd (d := d) (h := fun f => { f with b := f.b.take n.toNat, sf := mn f.sf n }) hd hw hgd (by have hq_ : n = mn (files.getD i0.toNat z93).f2 n := (by unfold mn; split <;> omega); exact congrArg (PF.mk _ _) hq_) hxn) O1146 0 rfl
            ·
             have H1149 := H1109.subst_ (d := 173) (b := false) rfl hb1110
             clear H1109
             (try simp only [decide_eq_false_iff_not, Int.not_lt] at hb1110)
             refine wp_skip ?_
             refine gw_blk ?_
             refine gw_nx (hK766 _ _ ?_)
             refine gw_seq fun K1150 hK1150 => ?_
             refine wp_region_lit ?_
             refine V H1149 (op_loadn gwagg50 gwsiz50 rfl (H1149.ev rfl) (O1098.get 3 rfl) rfl rfl) ?_
             intro _ H1152; clear H1149
             refine V H1152 (op_loadn gwagg93 gwsiz93 rfl (H1152.ev rfl) (O1098.get 0 rfl) rfl rfl) ?_
             intro _ H1154; clear H1152
             have O1158 := O1098.void
             clear O1098
             have O1160 : Own w w1096 [Chunk.void, Bk g571 [.string ((files.getD i0.toNat z93).f0), .slice A602 ((((files.getD i0.toNat z93).f1).take n.toNat).length) c603, J ((files.getD i0.toNat z93).f2)] 93, Bk g410 [.slice none 0 0, J 0, J 0, .bool false] 50, Bk g404 [J kd, .string nm, .string dest, J n, .slice Ay y.length cy] 55, Bk g398 [.slice Af files.length cf, J d.most, J fu, .bool d.down] 50] := O1158
             clear O1158
             refine gw_call H1154 (want_none rfl) rfl (by decide) (op_callL Try.func56 (by kernel_rfl) rfl rfl (ar_cons (H1154.ev rfl) (ar_cons (H1154.ev rfl) ar_nil))) (with_own Af cf files d.most fu d.down ((files.getD i0.toNat z93).f0) A602 c603 (((files.getD i0.toNat z93).f1).take n.toNat) ((files.getD i0.toNat z93).f2) hP 0 rfl O1160 (F_up O1160 hP hF _) hcf (F_up O1160 hP (Kd.F_take (m := n.toNat) hC605 (by omega)) _) hc1088 hlf) ?_
             rintro e1161 w1162 ⟨A1155, c1156, S1157, rfl, hb1163⟩
             refine ⟨_, rfl, fun _ H1165 => ?_⟩
             have O1166 := O1160.calls 0 rfl hb1163
             clear H1154 O1160 hb1163
             have O1168 : Own w w1162 [Chunk.prow w P k93 93 w.heap.size S1157 (.slice A1155 ((withL (⟨(files.getD i0.toNat z93).f0, (((files.getD i0.toNat z93).f1).take n.toNat), (files.getD i0.toNat z93).f2⟩ : S93) files false).length) c1156) (withL (⟨(files.getD i0.toNat z93).f0, (((files.getD i0.toNat z93).f1).take n.toNat), (files.getD i0.toNat z93).f2⟩ : S93) files false), Bk g571 [.string ((files.getD i0.toNat z93).f0), .slice A602 ((((files.getD i0.toNat z93).f1).take n.toNat).length) c603, J ((files.getD i0.toNat z93).f2)] 93, Bk g410 [.slice none 0 0, J 0, J 0, .bool false] 50, Bk g404 [J kd, .string nm, .string dest, J n, .slice Ay y.length cy] 55, Bk g398 [.slice Af files.length cf, J d.most, J fu, .bool d.down] 50] := O1166
             clear O1166
             refine gw_setn 2 H1165 O1168 rfl (want_none rfl) rfl (op_storen gwsiz50 rfl (H1165.ev rfl) (H1165.ev rfl) (O1168.get 2 rfl) rfl (by simp) (by simp [Value.oneCell'])) ?_
             intro _ w1171 H1170 O1172; clear H1165 O1168
             have O1173 : Own w w1171 [Chunk.prow w P k93 93 w.heap.size S1157 (.slice A1155 ((withL (⟨(files.getD i0.toNat z93).f0, (((files.getD i0.toNat z93).f1).take n.toNat), (files.getD i0.toNat z93).f2⟩ : S93) files false).length) c1156) (withL (⟨(files.getD i0.toNat z93).f0, (((files.getD i0.toNat z93).f1).take n.toNat), (files.getD i0.toNat z93).f2⟩ : S93) files false), Bk g571 [.string ((files.getD i0.toNat z93).f0), .slice A602 ((((files.getD i0.toNat z93).f1).take n.toNat).length) c603, J ((files.getD i0.toNat z93).f2)] 93, Bk g410 [.slice A1155 ((withL (⟨(files.getD i0.toNat z93).f0, (((files.getD i0.toNat z93).f1).take n.toNat), (files.getD i0.toNat z93).f2⟩ : S93) files false).length) c1156, J d.most, J fu, .bool d.down] 50, Bk g404 [J kd, .string nm, .string dest, J n, .slice Ay y.length cy] 55, Bk g398 [.slice Af files.length cf, J d.most, J fu, .bool d.down] 50] := O1172
             clear O1172
             refine V H1170 (op_assign rfl (ev_c _ _)) ?_
             intro _ H1175; clear H1170
             refine wpList_nil ?_
             refine gw_nx (hK1150 _ _ ?_)
             refine wp_ret ?_
             refine gw_rets2 H1175 rfl (rv_celln H1175 rfl gwagg50 gwsiz50 (O1173.get 2 rfl) rfl) (rv_tmp H1175 rfl) ?_
             have ef_ : fu = decF d.fuse := hfud.1
             rw [ef_]
             exact do_new hP (((does_go (f := ofS (files.getD i0.toNat z93)) hdn (.inr ⟨by omega, hgd, fun h_ => by omega, hn4, fun h_ => (show ¬ (n < 0 ∨ ((files.getD i0.toNat z93).f1.length : Int) < n) by omega)⟩)).trans (step_on (by omega) hfu.1)).trans (congrArg (·, (0 : Int)) (ks5 (by omega)))) (with_upd (d := d) (h := fun f => { f with b := f.b.take n.toNat, sf := mn f.sf n }) hd hw hgd (by have hq_ : (files.getD i0.toNat z93).f2 = mn (files.getD i0.toNat z93).f2 n := (by unfold mn; split <;> omega); exact congrArg (PF.mk _ _) hq_) hxn) O1173 0 rfl
           ·
            have H1176 := H1075.subst_ (d := 161) (b := false) rfl hb1076
            clear H1075
            (try simp only [decide_eq_false_iff_not] at hb1076)
            have hk5 := hb1076
            refine gw_seq fun K1177 hK1177 => ?_
            refine wp_region_lit ?_
            refine V H1176 (op_eqi rfl (H1176.ev rfl) (ev_c _ _)) ?_
            intro _ H1179; clear H1176
            refine V H1179 (op_assign rfl (H1179.ev rfl)) ?_
            intro _ H1181; clear H1179
            refine wpList_nil ?_
            refine gw_nx (hK1177 _ _ ?_)
            refine gw_cond H1181 rfl (fun hb1182 => ?_) (fun hb1182 => ?_)
            ·
             have H1183 := H1181.subst_ (d := 177) (b := true) rfl hb1182
             clear H1181
             (try simp only [decide_eq_true_eq] at hb1182)
             have hk6 := hb1182
             refine gw_seq fun K1184 hK1184 => ?_
             refine wp_region_lit ?_
             refine V H1183 (op_loadn gwagg50 gwsiz50 rfl (H1183.ev rfl) (O765.get 3 rfl) rfl rfl) ?_
             intro _ H1186; clear H1183
             refine V H1186 (op_field (gwfld55_1 _ _) rfl (H1186.ev rfl)) ?_
             intro _ H1188; clear H1186
             refine V H1188 (op_load1 gwagg9 rfl (H1188.ev rfl) (blk_at (O765.get 2 rfl) rfl)) ?_
             intro _ H1190; clear H1188
             refine gw_call H1190 (want_none rfl) rfl (by decide) (op_callL Try.func55 (by kernel_rfl) rfl rfl (ar_cons (H1190.ev rfl) (ar_cons (H1190.ev rfl) ar_nil))) (without_own Af cf files d.most fu d.down nm hP O765 hF hcf hlf) ?_
             rintro e1195 w1196 ⟨A1191, c1192, S1193, rfl, hb1197⟩
             refine ⟨_, rfl, fun _ H1199 => ?_⟩
             have O1200 := O765.fresh hb1197
             clear H1190 O765 hb1197
             have O1202 : Own w w1196 [Chunk.prow w P k93 93 w.heap.size S1193 (.slice A1191 ((delR nm files).length) c1192) (delR nm files), Bk g571 [.string ((files.getD i0.toNat z93).f0), .slice A602 ((files.getD i0.toNat z93).f1.length) c603, J ((files.getD i0.toNat z93).f2)] 93, Bk g410 [.slice none 0 0, J 0, J 0, .bool false] 50, Bk g404 [J kd, .string nm, .string dest, J n, .slice Ay y.length cy] 55, Bk g398 [.slice Af files.length cf, J d.most, J fu, .bool d.down] 50] := O1200
             clear O1200
             refine gw_setn 2 H1199 O1202 rfl (want_none rfl) rfl (op_storen gwsiz50 rfl (H1199.ev rfl) (H1199.ev rfl) (O1202.get 2 rfl) rfl (by simp) (by simp [Value.oneCell'])) ?_
             intro _ w1205 H1204 O1206; clear H1199 O1202
             have O1207 : Own w w1205 [Chunk.prow w P k93 93 w.heap.size S1193 (.slice A1191 ((delR nm files).length) c1192) (delR nm files), Bk g571 [.string ((files.getD i0.toNat z93).f0), .slice A602 ((files.getD i0.toNat z93).f1.length) c603, J ((files.getD i0.toNat z93).f2)] 93, Bk g410 [.slice A1191 ((delR nm files).length) c1192, J d.most, J fu, .bool d.down] 50, Bk g404 [J kd, .string nm, .string dest, J n, .slice Ay y.length cy] 55, Bk g398 [.slice Af files.length cf, J d.most, J fu, .bool d.down] 50] := O1206
             clear O1206
             refine V H1204 (op_assign rfl (ev_c _ _)) ?_
             intro _ H1209; clear H1204
             refine wpList_nil ?_
             refine gw_nx (hK1184 _ _ ?_)
             refine wp_ret ?_
             refine gw_blr ?_
             refine gw_thr ?_
             refine gw_rets2 H1209 rfl (rv_celln H1209 rfl gwagg50 gwsiz50 (O1207.get 2 rfl) rfl) (rv_tmp H1209 rfl) ?_
             have ef_ : fu = decF d.fuse := hfud.1
             rw [ef_]
             exact do_newE hP (((does_go (f := ofS (files.getD i0.toNat z93)) hdn (.inr ⟨by omega, hgd, fun h_ => by omega, hn4, fun h_ => (show ¬ (n < 0 ∨ ((files.getD i0.toNat z93).f1.length : Int) < n) by omega)⟩)).trans (step_on (by omega) hfu.1)).trans (congrArg (·, (0 : Int)) (ks6 (by omega)))) (by obtain ⟨a1_, a2_, a3_, _⟩ := drop_keeps nm ({ d with fuse := decF d.fuse } : PD); exact ⟨a1_, a2_, a3_⟩) (by rw [delR_of, hd]; exact (drop_fs2 nm ({ d with fuse := decF d.fuse } : PD)).symm) O1207 0 rfl
            ·
             have H1210 := H1181.subst_ (d := 177) (b := false) rfl hb1182
             clear H1181
             (try simp only [decide_eq_false_iff_not] at hb1182)
             exfalso; omega
end GRef1_
export GRef1_ (do_calls)
end Go.Proofs.Ytkdahjnmldeklaa.PA
end
section
namespace Go.Proofs.Ytkdahjnmldeklaa.PA
open Go.RowKit Go.Maps Go.Proofs.YtkdahjnmldeklaaW.PrintWords Go.Proofs.YtkdahjnmldeklaaW.PrintLast Go.Proofs.YtkdahjnmldeklaaW.PrintMore
set_option linter.unusedVariables false
set_option linter.unusedSimpArgs false
theorem drop_of {files : List S93} {i : Nat} (z : S93) (hi : i < files.length) : (files.drop i).map ofS = ofS (files.getD i z) :: (files.drop (i + 1)).map ofS := by
  have e : files.getD i z = files[i] := by simp [List.getD_eq_getElem?_getD, List.getElem?_eq_getElem hi]
  rw [List.drop_eq_getElem_cons hi, e]
  rfl
theorem keepN_at {keep : List Int} {i : Nat} {loose : Int} (hi : i < keep.length) : keepN (keep.drop i) loose = mn (mx (keep.getD i (0 : Int)) 0) loose := by
  have e : keep.getD i (0 : Int) = keep[i] := by simp [List.getD_eq_getElem?_getD, List.getElem?_eq_getElem hi]
  rw [List.drop_eq_getElem_cons hi, e]
  rfl
theorem keepN_past {keep : List Int} {i : Nat} {loose : Int} (hi : keep.length ≤ i) : keepN (keep.drop i) loose = 0 := by
  rw [List.drop_eq_nil_of_le hi]
  rfl
end Go.Proofs.Ytkdahjnmldeklaa.PA
end
