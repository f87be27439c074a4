/- What this claim uses of this session's own texts, put together by a program: GClass HGlobD GParse HPan HIdx GIn HGlobM GMatch HTab Shelf HTab2 HMake HTab3. -/
import Derived.Test.YtelbgmpeghhakaaGreatKGlobMatches0
import Derived.Test.YtelbgmpeghhakaaGreatProg
import Derived.Test.YtelbgmpeghhakaaGreatRows
section
namespace Go.Proofs.YtelbgmpeghhakaaGreat.PA
open Go.RowKit Go.Proofs.YtelbgmpeghhakaaGreatW.PrintWords Go.Proofs.YtelbgmpeghhakaaGreatW.PrintLast Go.Proofs.YtelbgmpeghhakaaGreatW.PrintMore
set_option linter.unusedVariables false
set_option linter.unusedSimpArgs false
namespace GClass_
theorem gwagg26 : ∀ w, (isAgg 26).run Tryz.prog w = .ok true w := fun _ => by kernel_rfl
theorem gwagg27 : ∀ w, (isAgg 27).run Tryz.prog w = .ok false w := fun _ => by kernel_rfl
theorem gwagg3 : ∀ w, (isAgg 3).run Tryz.prog w = .ok false w := fun _ => by kernel_rfl
theorem gwagg9 : ∀ w, (isAgg 9).run Tryz.prog w = .ok false w := fun _ => by kernel_rfl
theorem gwfld44_0 (g off : Nat) : ∀ w, (Instr.fieldAt 44 (.pointer (some ⟨g, off, none⟩)) 0).run Tryz.prog w = .ok (.pointer (some ⟨g, off + 0, none⟩)) w := fun _ => by kernel_rfl
theorem gwfld44_1 (g off : Nat) : ∀ w, (Instr.fieldAt 44 (.pointer (some ⟨g, off, none⟩)) 1).run Tryz.prog w = .ok (.pointer (some ⟨g, off + 1, none⟩)) w := fun _ => by kernel_rfl
theorem gwfld44_2 (g off : Nat) : ∀ w, (Instr.fieldAt 44 (.pointer (some ⟨g, off, none⟩)) 2).run Tryz.prog w = .ok (.pointer (some ⟨g, off + 2, none⟩)) w := fun _ => by kernel_rfl
theorem gwinfo55 : (Tryz.prog.info? 55).map (fun i => (i.zero, i.size, i.bytes)) = some (some (.agg #[.int .u8 0, .int .u8 0]), 2, 2) := by kernel_rfl
theorem gwsiz26 : ∀ w, (sizeOf 26).run Tryz.prog w = .ok 3 w := fun _ => by kernel_rfl
theorem gwsiz3 : ∀ w, (sizeOf 3).run Tryz.prog w = .ok 1 w := fun _ => by kernel_rfl
theorem gwzer26 : ∀ w, (zeroValue 26).run Tryz.prog w = .ok (.agg #[.int .i64 0, .slice none 0 0, .slice none 0 0]) w := fun _ => by kernel_rfl
set_option maxHeartbeats 4000000 in
set_option maxRecDepth 100000 in
theorem over_walk (gr : Nat) (s : ByteArray) (i0 cd wr : Int) (w : World) (hB : w.heap[gr]? = some (.cells #[.string s, .int .i64 i0, .int .i64 cd, .int .i64 wr] 44 (0, 0))) :
    Calls Tryz.prog 16 #[.pointer (some ⟨gr, 0, none⟩)] w fun e w' => e = .returned (.bool (decide ((s.size : Int) ≤ i0))) ∧ Below w.heap.size w w' := by
 refine gw_start (N := 13) (vs := [.pointer (some ⟨gr, 0, none⟩)]) Tryz.func16 rfl rfl (by simp) fun a HF HO => ?_
 replace HO : Own w w [] := HO
 refine gR fun K1 hK1 => ?_
 refine V HF (op_assign rfl (ev_c _ _)) ?_
 intro _ H3; clear HF
 refine gE hK1 ?_
 refine gw_seq fun K4 hK4 => ?_
 refine gw_drawB HO (by kernel_rfl) (by kernel_rfl) fun w5 O6 => ?_
 clear HO
 refine gq_ev H3 (want_none rfl) rfl (by decide) (fun wq hq => have HO := O6.after hq; (op_move rfl (H3.ev rfl))) ?_
 intro _ H8; clear H3
 refine gq_ev H8 (want_none rfl) rfl (by decide) (fun wq hq => have HO := O6.after hq; (op_nil rfl (H8.ev rfl))) ?_
 intro _ H10; clear H8
 refine gq_ev H10 (want_none rfl) rfl (by decide) (fun wq hq => have HO := O6.after hq; (op_field (gwfld44_1 _ _) rfl (H10.ev rfl))) ?_
 intro _ H12; clear H10
 refine gq_ev H12 (want_none rfl) rfl (by decide) (fun wq hq => have HO := O6.after hq; (op_load1 gwagg3 rfl (H12.ev rfl) (blk_at (argblk HO hB) rfl))) ?_
 intro _ H14; clear H12
 refine gq_ev H14 (want_none rfl) rfl (by decide) (fun wq hq => have HO := O6.after hq; (op_move rfl (H14.ev rfl))) ?_
 intro _ H16; clear H14
 refine gq_ev H16 (want_none rfl) rfl (by decide) (fun wq hq => have HO := O6.after hq; (op_nil rfl (H16.ev rfl))) ?_
 intro _ H18; clear H16
 refine gq_ev H18 (want_none rfl) rfl (by decide) (fun wq hq => have HO := O6.after hq; (op_field (gwfld44_0 _ _) rfl (H18.ev rfl))) ?_
 intro _ H20; clear H18
 refine gq_ev H20 (want_none rfl) rfl (by decide) (fun wq hq => have HO := O6.after hq; (op_load1 gwagg9 rfl (H20.ev rfl) (blk_at (argblk HO hB) rfl))) ?_
 intro _ H22; clear H20
 refine gq_ev H22 (want_none rfl) rfl (by decide) (fun wq hq => have HO := O6.after hq; (op_lens Tryz.underlying9 rfl (H22.ev rfl))) ?_
 intro _ H24; clear H22
 refine gq_ev H24 (want_none rfl) rfl (by decide) (fun wq hq => have HO := O6.after hq; (op_geq rfl (H24.ev rfl) (H24.ev rfl))) ?_
 intro _ H26; clear H24
 refine gq_ev H26 (want_none rfl) rfl (by decide) (fun wq hq => have HO := O6.after hq; (op_assign rfl (H26.ev rfl))) ?_
 intro _ H28; clear H26
 refine wpQuiet_nil ?_
 intro w29 hq
 have O30 := O6.after hq
 clear O6 hq
 refine gw_nx (hK4 _ _ ?_)
 refine wp_ret ?_
 refine gw_ret1 H28 rfl rfl ?_
 exact ⟨rfl, O30.below⟩
set_option maxHeartbeats 4000000 in
set_option maxRecDepth 100000 in
theorem class_walk (w0 w : World) (R : Chunk) (gr : Nat) (s : ByteArray) (i0 wr : Int) (hi : 0 ≤ i0 ∧ i0 ≤ s.size) (hsz : s.size ≤ 256) (HO : Own w0 w [R, Bk gr [.string s, .int .i64 i0, .int .i64 0, .int .i64 wr] 44]) :
    Calls Tryz.prog 20 #[.pointer (some ⟨gr, 0, none⟩)] w fun e w' => ∃ (L : List S55) (A : Option Addr) (c : Nat) (S : Nat → Prop) (i' c' wr' : Int), e = .returned (.agg #[.int .i64 1, .slice A L.length c, .slice none 0 0]) ∧ Own w0 w' [R, RdB gr s i' c' wr', Chunk.view k55 S A L.length c L] ∧ clsP s i0 wr i' c' wr' L := by
 obtain ⟨RES, hRES⟩ : ∃ R_ : ClsRes, R_ = classS ((rest_ s i0).length + 1) (if (rest_ s i0).head? = some 33 then (rest_ s i0).tail else rest_ s i0) true [] := ⟨_, rfl⟩
 refine gw_startO (N := 131) (vs := [.pointer (some ⟨gr, 0, none⟩)]) Tryz.func20 rfl rfl (by simp) fun a HF => ?_
 refine gR fun K1 hK1 => ?_
 refine gw_new HF HO (want_none rfl) rfl (by decide) (op_alloc gwzer26 rfl) ?_
 intro g2 _ w4 H5 O6; clear HF HO
 have O7 : Own w0 w4 [Bk g2 [J 0, .slice none 0 0, .slice none 0 0] 26, R, Bk gr [.string s, J i0, J 0, J wr] 44] := O6
 clear O6
 refine gE hK1 ?_
 refine gw_seq fun K8 hK8 => ?_
 refine gw_drawB O7 (by kernel_rfl) (by kernel_rfl) fun w9 O10 => ?_
 clear O7
 refine gq_ev H5 (want_none rfl) rfl (by decide) (fun wq hq => have HO := O10.after hq; (op_move rfl (H5.ev rfl))) ?_
 intro _ H12; clear H5
 refine gq_call H12 (want_none rfl) rfl (by decide) (fun wq hq => have HO := O10.after hq; (op_callL Tryz.func16 (by kernel_rfl) rfl rfl (ar_cons (H12.ev rfl) ar_nil))) (fun wq hq => have HO := O10.after hq; (over_walk gr s i0 0 wr _ (HO.get 2 rfl)).mono fun e w' h => ⟨h.1, below_then hq h.2⟩) ?_
 intro _ H14; clear H12
 refine gq_ev H14 (want_none rfl) rfl (by decide) (fun wq hq => have HO := O10.after hq; (op_not rfl (H14.ev rfl))) ?_
 intro _ H16; clear H14
 refine gq_ev H16 (want_none rfl) rfl (by decide) (fun wq hq => have HO := O10.after hq; (op_move rfl (H16.ev rfl))) ?_
 intro _ H18; clear H16
 refine gq_evG H18 rfl rfl rfl rfl (on_t _) rfl (by decide) (fun h_ wq hq => have HO := O10.after hq; (op_move rfl (H18.ev rfl))) ?_
 intro _ H20; clear H18
 refine gq_evG H20 rfl rfl rfl rfl (on_t _) rfl (by decide) (fun h_ wq hq => have HO := O10.after hq; (op_nil rfl (ev_gv (H20.ev rfl) h_))) ?_
 intro _ H22; clear H20
 refine gq_evG H22 rfl rfl rfl rfl (on_t _) rfl (by decide) (fun h_ wq hq => have HO := O10.after hq; (op_field (gwfld44_0 _ _) rfl (ev_gv (H22.ev rfl) h_))) ?_
 intro _ H24; clear H22
 refine gq_evG H24 rfl rfl rfl rfl (on_t _) rfl (by decide) (fun h_ wq hq => have HO := O10.after hq; (op_load1 gwagg9 rfl (ev_gv (H24.ev rfl) h_) (blk_at (HO.get 2 rfl) rfl))) ?_
 intro _ H26; clear H24
 refine gq_evG H26 rfl rfl rfl rfl (on_t _) rfl (by decide) (fun h_ wq hq => have HO := O10.after hq; (op_move rfl (H26.ev rfl))) ?_
 intro _ H28; clear H26
 refine gq_evG H28 rfl rfl rfl rfl (on_t _) rfl (by decide) (fun h_ wq hq => have HO := O10.after hq; (op_nil rfl (ev_gv (H28.ev rfl) h_))) ?_
 intro _ H30; clear H28
 refine gq_evG H30 rfl rfl rfl rfl (on_t _) rfl (by decide) (fun h_ wq hq => have HO := O10.after hq; (op_field (gwfld44_1 _ _) rfl (ev_gv (H30.ev rfl) h_))) ?_
 intro _ H32; clear H30
 refine gq_evG H32 rfl rfl rfl rfl (on_t _) rfl (by decide) (fun h_ wq hq => have HO := O10.after hq; (op_load1 gwagg3 rfl (ev_gv (H32.ev rfl) h_) (blk_at (HO.get 2 rfl) rfl))) ?_
 intro _ H34; clear H32
 refine gq_evG H34 rfl rfl rfl rfl (on_t _) rfl (by decide) (fun h_ wq hq => have HO := O10.after hq; (op_sidx Tryz.underlying9 rfl (ev_gv (H34.ev rfl) h_) (ev_gv (H34.ev rfl) h_) ⟨by (try simp only [Bool.and_eq_true, Bool.or_eq_true, Bool.and_eq_false_iff, Bool.or_eq_false_iff, Bool.not_and, Bool.not_or, Bool.not_not, decide_eq_true_eq, decide_eq_false_iff_not, Bool.not_eq_true', Bool.not_eq_false', Bool.not_eq_true, Bool.not_eq_false, ne_eq, Decidable.not_not, Int.not_lt, Int.not_le, not_true_eq_false, not_false_eq_true, bne_iff_ne, beq_iff_eq, bne_eq_false_iff_eq, beq_eq_false_iff_ne] at h_); omega, by (try simp only [Bool.and_eq_true, Bool.or_eq_true, Bool.and_eq_false_iff, Bool.or_eq_false_iff, Bool.not_and, Bool.not_or, Bool.not_not, decide_eq_true_eq, decide_eq_false_iff_not, Bool.not_eq_true', Bool.not_eq_false', Bool.not_eq_true, Bool.not_eq_false, ne_eq, Decidable.not_not, Int.not_lt, Int.not_le, not_true_eq_false, not_false_eq_true, bne_iff_ne, beq_iff_eq, bne_eq_false_iff_eq, beq_eq_false_iff_ne] at h_); omega⟩)) ?_
 intro _ H36; clear H34
 refine gq_evG H36 rfl rfl rfl rfl (on_t _) rfl (by decide) (fun h_ wq hq => have HO := O10.after hq; (op_eqi rfl (ev_gv (H36.ev rfl) h_) (ev_c _ _))) ?_
 intro _ H38; clear H36
 refine gq_ev H38 (want_none rfl) rfl (by decide) (fun wq hq => have HO := O10.after hq; (op_pick_and rfl (H38.ev rfl) (fun hp_ => (ev_gv (H38.ev rfl) hp_)) (ev_c _ _))) ?_
 intro _ H40; clear H38
 refine gq_ev H40 (want_none rfl) rfl (by decide) (fun wq hq => have HO := O10.after hq; (op_assign rfl (H40.ev rfl))) ?_
 intro _ H42; clear H40
 refine wpQuiet_nil ?_
 intro w43 hq
 have O44 := O10.after hq
 clear O10 hq
 refine gw_nx (hK8 _ _ ?_)
 refine gw_seq fun K45 hK45 => ?_
 refine gR fun K46 hK46 => ?_
 refine V H42 (op_move rfl (H42.ev rfl)) ?_
 intro _ H48; clear H42
 refine gE hK46 ?_
 refine gw_cond H48 rfl (fun hb49 => ?_) (fun hb49 => ?_)
 ·
  have H50 := H48.subst_ (d := 25) (b := true) rfl hb49
  clear H48
  (try simp only [Bool.and_eq_true, Bool.and_eq_false_iff, Bool.not_and, Bool.or_eq_true, Bool.or_eq_false_iff, Bool.not_or, Bool.not_not, Bool.not_eq_true', Bool.not_eq_false', Bool.not_eq_true, Bool.not_eq_false, decide_eq_true_eq, decide_eq_false_iff_not, Int.not_le] at hb49)
  have hbang : (rest_ s i0).head? = some 33 := by rw [rest_cons s i0 (by omega)]; exact congrArg some (And.right hb49)
  refine wp_region_lit ?_
  refine V H50 (op_move rfl (H50.ev rfl)) ?_
  intro _ H52; clear H50
  refine V H52 (op_nil rfl (H52.ev rfl)) ?_
  intro _ H54; clear H52
  refine V H54 (op_field (gwfld44_1 _ _) rfl (H54.ev rfl)) ?_
  intro _ H56; clear H54
  refine V H56 (op_load1 gwagg3 rfl (H56.ev rfl) (blk_at (O44.get 2 rfl) rfl)) ?_
  intro _ H58; clear H56
  refine V H58 (op_add rfl (H58.ev rfl) (ev_c _ _) (by omega)) ?_
  intro _ H60; clear H58
  refine V H60 (op_nil rfl (H60.ev rfl)) ?_
  intro _ H62; clear H60
  refine V H62 (op_field (gwfld44_1 _ _) rfl (H62.ev rfl)) ?_
  intro _ H64; clear H62
  refine gw_set 2 H64 O44 rfl (want_none rfl) rfl (op_store1 gwsiz3 rfl (H64.ev rfl) (H64.ev rfl) rfl (blk_at (O44.get 2 rfl) rfl) (blkf (O44.get 2 rfl))) ?_
  intro _ w67 H66 O68; clear H64 O44
  refine gE hK45 ?_
  refine gR fun K69 hK69 => ?_
  refine V H66 (op_assign rfl (ev_c _ _)) ?_
  intro _ H71; clear H66
  have O72 := O68.row_nil k55 55 w0.heap.size
  clear O68
  have O73 : Own w0 w67 [Chunk.row k55 55 w0.heap.size (fun _ => False) (.slice none (([] : List S55).length) 0) ([] : List S55), Bk g2 [J 0, .slice none 0 0, .slice none 0 0] 26, R, Bk gr [.string s, J (i0 + 1), J 0, J wr] 44] := O72
  clear O72
  refine gE hK69 ?_
  refine gw_seq fun K74 hK74 => ?_
  refine gR fun K75 hK75 => ?_
  refine V H71 (op_assign rfl (ev_c _ _)) ?_
  intro _ H77; clear H71
  refine gE hK75 ?_
  refine wp_block ?_
  refine gw_loop (fun m_ a_ w_ => ∃ (p : Int) (cd2 : Int) (wr2 : Int) (fst : Bool) (rs : List S55) (Aa : Option Addr) (ca : Nat) (Sa : Nat → Prop) (no : Nat), Fr 131 a_ [(5, .bool fst), (4, .slice Aa no ca), (0, .pointer (some ⟨gr, 0, none⟩)), (2, .pointer (some ⟨g2, 0, none⟩)), (3, .bool ((!(decide ((s.size : Int) ≤ i0))) && (decide ((bt s i0) = 33))))] ∧ Own w0 w_ [Chunk.row k55 55 w0.heap.size Sa (.slice Aa no ca) rs, Bk gr [.string s, J p, J cd2, J wr2] 44, Bk g2 [J 0, .slice none 0 0, .slice none 0 0] 26, R] ∧ (0 ≤ p ∧ p ≤ s.size) ∧ (∀ r_ ∈ rs, 0 ≤ r_.f0 ∧ r_.f1 ≤ 255) ∧ ((rs.length : Int) ≤ p) ∧ (clsI s wr RES p cd2 wr2 fst rs) ∧ (no = rs.length) ∧ m_ = (s.size - p.toNat)) ((s.size - (i0 + 1 : Int).toNat)) ?_ ?_
  ·
   refine ⟨i0 + 1, 0, wr, true, ([] : List S55), none, _, _, _, (H77.pick (t := 5) rfl (H77.pick (t := 4) rfl (H77.pick (t := 0) rfl (H77.pick (t := 2) rfl (H77.pick (t := 3) rfl H77.nil))))), O73.sel [0, 3, 1, 2] (by decide), ?_, ?_, ?_, ?_, ?_, rfl⟩
   ·
    omega
   ·
    intro r_ hr_; simp at hr_
   ·
    show (0 : Int) ≤ _; omega
   ·
    exact .inl ⟨rfl, rfl, (rest_ s i0).length + 1, by have h_ := congrArg List.length (rest_cons s i0 (by omega)); rw [List.length_cons] at h_; omega, by rw [hRES, if_pos hbang, show (rest_ s i0).tail = rest_ s (i0 + 1) by rw [rest_cons s i0 (by omega)]; rfl]⟩
   ·
    rfl
  ·
   rintro m79 _ w81 ⟨p, cd2, wr2, fst, rs, Aa, ca, Sa, no, H82, O83, hp, hbs, hlen, hD, hno, hm84⟩
   subst hno
   have hrl := rest_len s p hp
   rcases cls_in hD with ⟨hc0, hw0, hb1, hR⟩ | ⟨x, q, r, k, hc0, hw0, hb1, hk, hR⟩ | ⟨hc0, hpe, m, hR, hw0⟩
   ·
    subst hc0
    obtain ⟨q0, hq0⟩ := byte_none s p wr2 hp (by omega) hb1
    refine gw_seq fun K85 hK85 => ?_
    refine wp_block ?_
    refine gR fun K86 hK86 => ?_
    refine V H82 (op_move rfl (H82.ev rfl)) ?_
    intro _ H88; clear H82
    refine V H88 (op_nil rfl (H88.ev rfl)) ?_
    intro _ H90; clear H88
    refine V H90 (op_field (gwfld44_1 _ _) rfl (H90.ev rfl)) ?_
    intro _ H92; clear H90
    refine V H92 (op_load1 gwagg3 rfl (H92.ev rfl) (blk_at (O83.get 1 rfl) rfl)) ?_
    intro _ H94; clear H92
    refine V H94 (op_assign rfl (H94.ev rfl)) ?_
    intro _ H96; clear H94
    refine gE hK86 ?_
    refine gR fun K97 hK97 => ?_
    refine V H96 (op_move rfl (H96.ev rfl)) ?_
    intro _ H99; clear H96
    refine gw_call H99 (want_none rfl) rfl (by decide) (op_callL Tryz.func17 (by kernel_rfl) rfl rfl (ar_cons (H99.ev rfl) ar_nil)) (byte_calls gr s s p 0 wr2 0 (s.size : Int) 31 (s.size : Int) q0 w0 _ (O83.lt 1 rfl rfl).1 O83.below (O83.get 1 rfl) (hq0)) ?_
    rintro e100 w101 ⟨rfl, hb102⟩
    refine ⟨_, rfl, fun _ H104 => ?_⟩
    have O105 := O83.calls 1 rfl hb102
    clear H99 O83 hb102
    refine V H104 (op_move rfl (H104.ev rfl)) ?_
    intro _ H108; clear H104
    refine V H108 (op_extract rfl (H108.ev rfl) rfl) ?_
    intro _ H110; clear H108
    refine V H110 (op_extract rfl (H110.ev rfl) rfl) ?_
    intro _ H112; clear H110
    refine V H112 (op_assign rfl (H112.ev rfl)) ?_
    intro _ H114; clear H112
    refine V H114 (op_assign rfl (H114.ev rfl)) ?_
    intro _ H116; clear H114
    refine gE hK97 ?_
    refine gw_seq fun K117 hK117 => ?_
    refine gR fun K118 hK118 => ?_
    refine V H116 (op_move rfl (H116.ev rfl)) ?_
    intro _ H120; clear H116
    refine V H120 (op_nil rfl (H120.ev rfl)) ?_
    intro _ H122; clear H120
    refine V H122 (op_field (gwfld44_2 _ _) rfl (H122.ev rfl)) ?_
    intro _ H124; clear H122
    refine V H124 (op_load1 gwagg27 rfl (H124.ev rfl) (blk_at (O105.get 1 rfl) rfl)) ?_
    intro _ H126; clear H124
    refine V H126 (op_nei rfl (H126.ev rfl) (ev_c _ _)) ?_
    intro _ H128; clear H126
    refine V H128 (op_move rfl (H128.ev rfl)) ?_
    intro _ H130; clear H128
    have H131 := H130.lit (b := true) (by decide)
    clear H130
    refine Vo H131 (wn H131 rfl rfl rfl rfl) ?_
    intro _ H133; clear H131
    refine Vo H133 (wn H133 rfl rfl rfl rfl) ?_
    intro _ H135; clear H133
    refine Vo H135 (wn H135 rfl rfl rfl rfl) ?_
    intro _ H137; clear H135
    refine Vo H137 (want_undef H137 rfl rfl rfl rfl) ?_
    intro _ H139; clear H137
    refine Vo H139 (want_undef H139 rfl rfl rfl rfl) ?_
    intro _ H141; clear H139
    refine Vo H141 (wn H141 rfl rfl rfl rfl) ?_
    intro _ H143; clear H141
    refine Vo H143 (wn H143 rfl rfl rfl rfl) ?_
    intro _ H145; clear H143
    refine Vo H145 (want_undef H145 rfl rfl rfl rfl) ?_
    intro _ H147; clear H145
    refine Vo H147 (want_undef H147 rfl rfl rfl rfl) ?_
    intro _ H149; clear H147
    refine Vo H149 (wn H149 rfl rfl rfl rfl) ?_
    intro _ H151; clear H149
    refine V H151 (op_pick_t rfl (H151.ev rfl) (ev_c _ _)) ?_
    intro _ H153; clear H151
    refine gE hK118 ?_
    refine gw_cond H153 rfl (fun hb154 => ?_) (fun hb154 => ?_)
    rotate_left
    ·
     cases hb154
    refine wp_exit ?_
    refine gw_thx ?_
    refine gw_out (by decide) ?_
    refine gw_thx ?_
    refine gw_thx ?_
    refine gw_in ?_
    refine gw_nx (hK74 _ _ ?_)
    refine gR fun K155 hK155 => ?_
    refine V H153 (op_move rfl (H153.ev rfl)) ?_
    intro _ H157; clear H153
    refine V H157 (op_move rfl (H157.ev rfl)) ?_
    intro _ H159; clear H157
    refine gw_call H159 (want_none rfl) rfl (by decide) (op_callL Tryz.func36 (by kernel_rfl) rfl rfl (ar_cons (H159.ev rfl) (ar_cons (H159.ev rfl) ar_nil))) (Ranges_out Aa ca rs ((!(decide ((s.size : Int) ≤ i0))) && (decide ((bt s i0) = 33))) _ (Kd.R_reads' (O105.get 0 rfl)).2.2 (row_cap (O105.get 0 rfl)) (hbs) (by omega)) ?_
    rintro e163 w164 ⟨A160, c161, S162, rfl, hb165⟩
    refine ⟨_, rfl, fun _ H167 => ?_⟩
    have O168 := O105.fresh hb165
    have hbel169 := O105.below
    clear H159 O105 hb165
    have O170 := O168.lowrow 0 rfl (base' := w0.heap.size) (Below.size hbel169)
    refine V H167 (op_build (cells := #[J 1, .slice A160 ((canonP fun c_ => inR rs c_ != ((!(decide ((s.size : Int) ≤ i0))) && (decide ((bt s i0) = 33)))).length) c161, .slice none 0 0]) rfl (pt_cons (ev_c _ _) (pt_cons (H167.ev rfl) pt_nil)) (by kernel_rfl)) ?_
    intro _ H172; clear H167
    refine gw_setn 3 H172 O170 rfl (want_none rfl) rfl (op_storen gwsiz26 rfl (H172.ev rfl) (H172.ev rfl) (O170.get 3 rfl) rfl (by simp) (by simp [Value.oneCell'])) ?_
    intro _ w175 H174 O176; clear H172 O170
    refine gE hK155 ?_
    refine wp_ret ?_
    refine gw_rets1 H174 rfl (rv_celln H174 rfl gwagg26 gwsiz26 (O176.get 3 rfl) rfl) ?_
    have O177 := O176.row_view 0 rfl
    clear O176
    have O178 : Own w0 w175 [Chunk.view k55 S162 A160 ((canonP fun c_ => inR rs c_ != ((!(decide ((s.size : Int) ≤ i0))) && (decide ((bt s i0) = 33)))).length) c161 (canonP fun c_ => inR rs c_ != ((!(decide ((s.size : Int) ≤ i0))) && (decide ((bt s i0) = 33)))), Chunk.row k55 55 w0.heap.size Sa (.slice Aa rs.length ca) rs, Bk gr [.string s, J (s.size : Int), J 31, J (s.size : Int)] 44, Bk g2 [J 1, .slice A160 ((canonP fun c_ => inR rs c_ != ((!(decide ((s.size : Int) ≤ i0))) && (decide ((bt s i0) = 33)))).length) c161, .slice none 0 0] 26, R] := O177
    clear O177
    exact ⟨_, _, _, _, _, _, _, rfl, O178.sel [4, 2, 0] (by decide), cls_bad (e := 31) (m := 0) (by rw [← hRES]; exact hR.symm) rfl rfl (by decide) (by omega)⟩
   ·
    subst hc0
    obtain ⟨hby, hrr, hp1, hp2⟩ := byte_ok s p wr2 x q r hp (by omega) hb1
    have hx := byteS_range hb1
    refine gw_seq fun K179 hK179 => ?_
    refine wp_block ?_
    refine gR fun K180 hK180 => ?_
    refine V H82 (op_move rfl (H82.ev rfl)) ?_
    intro _ H182; clear H82
    refine V H182 (op_nil rfl (H182.ev rfl)) ?_
    intro _ H184; clear H182
    refine V H184 (op_field (gwfld44_1 _ _) rfl (H184.ev rfl)) ?_
    intro _ H186; clear H184
    refine V H186 (op_load1 gwagg3 rfl (H186.ev rfl) (blk_at (O83.get 1 rfl) rfl)) ?_
    intro _ H188; clear H186
    refine V H188 (op_assign rfl (H188.ev rfl)) ?_
    intro _ H190; clear H188
    refine gE hK180 ?_
    refine gR fun K191 hK191 => ?_
    refine V H190 (op_move rfl (H190.ev rfl)) ?_
    intro _ H193; clear H190
    refine gw_call H193 (want_none rfl) rfl (by decide) (op_callL Tryz.func17 (by kernel_rfl) rfl rfl (ar_cons (H193.ev rfl) ar_nil)) (byte_calls gr s s p 0 wr2 x ((s.size : Int) - r.length) 0 wr2 q w0 _ (O83.lt 1 rfl rfl).1 O83.below (O83.get 1 rfl) (hby)) ?_
    rintro e194 w195 ⟨rfl, hb196⟩
    refine ⟨_, rfl, fun _ H198 => ?_⟩
    have O199 := O83.calls 1 rfl hb196
    clear H193 O83 hb196
    refine V H198 (op_move rfl (H198.ev rfl)) ?_
    intro _ H202; clear H198
    refine V H202 (op_extract rfl (H202.ev rfl) rfl) ?_
    intro _ H204; clear H202
    refine V H204 (op_extract rfl (H204.ev rfl) rfl) ?_
    intro _ H206; clear H204
    refine V H206 (op_assign rfl (H206.ev rfl)) ?_
    intro _ H208; clear H206
    refine V H208 (op_assign rfl (H208.ev rfl)) ?_
    intro _ H210; clear H208
    refine gE hK191 ?_
    refine gw_seq fun K211 hK211 => ?_
    refine gR fun K212 hK212 => ?_
    refine V H210 (op_move rfl (H210.ev rfl)) ?_
    intro _ H214; clear H210
    refine V H214 (op_nil rfl (H214.ev rfl)) ?_
    intro _ H216; clear H214
    refine V H216 (op_field (gwfld44_2 _ _) rfl (H216.ev rfl)) ?_
    intro _ H218; clear H216
    refine V H218 (op_load1 gwagg27 rfl (H218.ev rfl) (blk_at (O199.get 1 rfl) rfl)) ?_
    intro _ H220; clear H218
    refine V H220 (op_nei rfl (H220.ev rfl) (ev_c _ _)) ?_
    intro _ H222; clear H220
    refine V H222 (op_move rfl (H222.ev rfl)) ?_
    intro _ H224; clear H222
    have H225 := H224.lit (b := false) (by decide)
    clear H224
    refine V2 H225 (want_yes H225 rfl rfl rfl rfl) (op_move rfl (H225.ev rfl)) ?_
    intro _ H227; clear H225
    refine V2 H227 (want_yes H227 rfl rfl rfl rfl) (op_eqi rfl (H227.ev rfl) (ev_c _ _)) ?_
    intro _ H229; clear H227
    refine V2 H229 (want_yes H229 rfl rfl rfl rfl) (op_move rfl (H229.ev rfl)) ?_
    intro _ H231; clear H229
    refine gw_evG H231 rfl rfl rfl rfl (on_t _) rfl (by decide) (fun h_ => (op_move rfl (H231.ev rfl))) ?_
    intro _ H233; clear H231
    refine gw_evG H233 rfl rfl rfl rfl (on_t _) rfl (by decide) (fun h_ => (op_not rfl (ev_gv (H233.ev rfl) h_))) ?_
    intro _ H235; clear H233
    refine V2 H235 (want_yes H235 rfl rfl rfl rfl) (op_pick_and rfl (H235.ev rfl) (fun hp_ => (ev_gv (H235.ev rfl) hp_)) (ev_c _ _)) ?_
    intro _ H237; clear H235
    refine V2 H237 (want_yes H237 rfl rfl rfl rfl) (op_move rfl (H237.ev rfl)) ?_
    intro _ H239; clear H237
    refine gw_evG H239 rfl rfl rfl rfl (on_t _) rfl (by decide) (fun h_ => (op_move rfl (H239.ev rfl))) ?_
    intro _ H241; clear H239
    refine gw_evG H241 rfl rfl rfl rfl (on_t _) rfl (by decide) (fun h_ => (op_not rfl (ev_gv (H241.ev rfl) h_))) ?_
    intro _ H243; clear H241
    refine V2 H243 (want_yes H243 rfl rfl rfl rfl) (op_pick_and rfl (H243.ev rfl) (fun hp_ => (ev_gv (H243.ev rfl) hp_)) (ev_c _ _)) ?_
    intro _ H245; clear H243
    refine V H245 (op_pick_f rfl (H245.ev rfl) (H245.ev rfl)) ?_
    intro _ H247; clear H245
    refine gE hK212 ?_
    refine gw_cond H247 rfl (fun hb248 => ?_) (fun hb248 => ?_)
    ·
     have H249 := H247.subst_ (d := 58) (b := true) rfl hb248
     clear H247
     (try simp only [Bool.and_eq_true, Bool.and_eq_false_iff, Bool.not_and, Bool.or_eq_true, Bool.or_eq_false_iff, Bool.not_or, Bool.not_not, Bool.not_eq_true', Bool.not_eq_false', Bool.not_eq_true, Bool.not_eq_false, decide_eq_true_eq, decide_eq_false_iff_not] at hb248)
     rw [if_pos (show x = 93 ∧ q = false ∧ fst = false from by have h_ := hb248; simpa [and_assoc] using h_)] at hR
     refine wp_exit ?_
     refine gw_thx ?_
     refine gw_out (by decide) ?_
     refine gw_thx ?_
     refine gw_thx ?_
     refine gw_in ?_
     refine gw_nx (hK74 _ _ ?_)
     refine gR fun K250 hK250 => ?_
     refine V H249 (op_move rfl (H249.ev rfl)) ?_
     intro _ H252; clear H249
     refine V H252 (op_move rfl (H252.ev rfl)) ?_
     intro _ H254; clear H252
     refine gw_call H254 (want_none rfl) rfl (by decide) (op_callL Tryz.func36 (by kernel_rfl) rfl rfl (ar_cons (H254.ev rfl) (ar_cons (H254.ev rfl) ar_nil))) (Ranges_out Aa ca rs ((!(decide ((s.size : Int) ≤ i0))) && (decide ((bt s i0) = 33))) _ (Kd.R_reads' (O199.get 0 rfl)).2.2 (row_cap (O199.get 0 rfl)) (hbs) (by omega)) ?_
     rintro e258 w259 ⟨A255, c256, S257, rfl, hb260⟩
     refine ⟨_, rfl, fun _ H262 => ?_⟩
     have O263 := O199.fresh hb260
     have hbel264 := O199.below
     clear H254 O199 hb260
     have O265 := O263.lowrow 0 rfl (base' := w0.heap.size) (Below.size hbel264)
     refine V H262 (op_build (cells := #[J 1, .slice A255 ((canonP fun c_ => inR rs c_ != ((!(decide ((s.size : Int) ≤ i0))) && (decide ((bt s i0) = 33)))).length) c256, .slice none 0 0]) rfl (pt_cons (ev_c _ _) (pt_cons (H262.ev rfl) pt_nil)) (by kernel_rfl)) ?_
     intro _ H267; clear H262
     refine gw_setn 3 H267 O265 rfl (want_none rfl) rfl (op_storen gwsiz26 rfl (H267.ev rfl) (H267.ev rfl) (O265.get 3 rfl) rfl (by simp) (by simp [Value.oneCell'])) ?_
     intro _ w270 H269 O271; clear H267 O265
     refine gE hK250 ?_
     refine wp_ret ?_
     refine gw_rets1 H269 rfl (rv_celln H269 rfl gwagg26 gwsiz26 (O271.get 3 rfl) rfl) ?_
     have O272 := O271.row_view 0 rfl
     clear O271
     have O273 : Own w0 w270 [Chunk.view k55 S257 A255 ((canonP fun c_ => inR rs c_ != ((!(decide ((s.size : Int) ≤ i0))) && (decide ((bt s i0) = 33)))).length) c256 (canonP fun c_ => inR rs c_ != ((!(decide ((s.size : Int) ≤ i0))) && (decide ((bt s i0) = 33)))), Chunk.row k55 55 w0.heap.size Sa (.slice Aa rs.length ca) rs, Bk gr [.string s, J ((s.size : Int) - r.length), J 0, J wr2] 44, Bk g2 [J 1, .slice A255 ((canonP fun c_ => inR rs c_ != ((!(decide ((s.size : Int) ≤ i0))) && (decide ((bt s i0) = 33)))).length) c256, .slice none 0 0] 26, R] := O272
     clear O272
     exact ⟨_, _, _, _, _, _, _, rfl, O273.sel [4, 2, 0] (by decide), cls_ok hi (by rw [← hRES]; exact hR.symm) (head_bang s i0 hi) rfl rfl hw0⟩
    ·
     have H274 := H247.subst_ (d := 58) (b := false) rfl hb248
     clear H247
     (try simp only [Bool.and_eq_true, Bool.and_eq_false_iff, Bool.not_and, Bool.or_eq_true, Bool.or_eq_false_iff, Bool.not_or, Bool.not_not, Bool.not_eq_true', Bool.not_eq_false', Bool.not_eq_true, Bool.not_eq_false, decide_eq_true_eq, decide_eq_false_iff_not] at hb248)
     have hnb : ¬ (x = 93 ∧ q = false ∧ fst = false) := by have h_ := hb248; rintro ⟨h1_, h2_, h3_⟩; simp [h1_, h2_, h3_] at h_
     refine wp_skip ?_
     refine gw_nx (hK211 _ _ ?_)
     refine gR fun K275 hK275 => ?_
     refine V H274 (op_move rfl (H274.ev rfl)) ?_
     intro _ H277; clear H274
     refine V H277 (op_assign rfl (H277.ev rfl)) ?_
     intro _ H279; clear H277
     refine gE hK275 ?_
     refine gw_seq fun K280 hK280 => ?_
     refine gw_seq fun K281 hK281 => ?_
     refine gw_drawB O199 (by kernel_rfl) (by kernel_rfl) fun w282 O283 => ?_
     clear O199
     refine gq_ev H279 (want_none rfl) rfl (by decide) (fun wq hq => have HO := O283.after hq; (op_move rfl (H279.ev rfl))) ?_
     intro _ H285; clear H279
     refine gq_ev H285 (want_none rfl) rfl (by decide) (fun wq hq => have HO := O283.after hq; (op_nil rfl (H285.ev rfl))) ?_
     intro _ H287; clear H285
     refine gq_ev H287 (want_none rfl) rfl (by decide) (fun wq hq => have HO := O283.after hq; (op_field (gwfld44_0 _ _) rfl (H287.ev rfl))) ?_
     intro _ H289; clear H287
     refine gq_ev H289 (want_none rfl) rfl (by decide) (fun wq hq => have HO := O283.after hq; (op_load1 gwagg9 rfl (H289.ev rfl) (blk_at (HO.get 1 rfl) rfl))) ?_
     intro _ H291; clear H289
     refine gq_ev H291 (want_none rfl) rfl (by decide) (fun wq hq => have HO := O283.after hq; (op_move rfl (H291.ev rfl))) ?_
     intro _ H293; clear H291
     refine gq_ev H293 (want_none rfl) rfl (by decide) (fun wq hq => have HO := O283.after hq; (op_nil rfl (H293.ev rfl))) ?_
     intro _ H295; clear H293
     refine gq_ev H295 (want_none rfl) rfl (by decide) (fun wq hq => have HO := O283.after hq; (op_field (gwfld44_1 _ _) rfl (H295.ev rfl))) ?_
     intro _ H297; clear H295
     refine gq_ev H297 (want_none rfl) rfl (by decide) (fun wq hq => have HO := O283.after hq; (op_load1 gwagg3 rfl (H297.ev rfl) (blk_at (HO.get 1 rfl) rfl))) ?_
     intro _ H299; clear H297
     refine gq_ev H299 (want_none rfl) rfl (by decide) (fun wq hq => have HO := O283.after hq; (op_scut Tryz.underlying9 rfl (H299.ev rfl) (some_ev (H299.ev rfl)) rfl (sb_lo ⟨by omega, by omega⟩))) ?_
     intro _ H301; clear H299
     refine gq_call H301 (want_none rfl) rfl (by decide) (fun wq hq => have HO := O283.after hq; (op_callL Tryz.func34 (by kernel_rfl) rfl rfl (ar_cons (H301.ev rfl) (ar_cons (ev_c _ _) ar_nil)))) (fun wq hq => have HO := O283.after hq; (hasp_calls s (⟨#[45]⟩ : ByteArray) ((s.size : Int) - r.length) _ (by omega)).mono fun e w' h => ⟨h.1, below_then hq h.2⟩) ?_
     intro _ H303; clear H301
     refine gq_ev H303 (want_none rfl) rfl (by decide) (fun wq hq => have HO := O283.after hq; (op_move rfl (H303.ev rfl))) ?_
     intro _ H305; clear H303
     refine gq_evG H305 rfl rfl rfl rfl (on_t _) rfl (by decide) (fun h_ wq hq => have HO := O283.after hq; (op_move rfl (H305.ev rfl))) ?_
     intro _ H307; clear H305
     refine gq_evG H307 rfl rfl rfl rfl (on_t _) rfl (by decide) (fun h_ wq hq => have HO := O283.after hq; (op_nil rfl (ev_gv (H307.ev rfl) h_))) ?_
     intro _ H309; clear H307
     refine gq_evG H309 rfl rfl rfl rfl (on_t _) rfl (by decide) (fun h_ wq hq => have HO := O283.after hq; (op_field (gwfld44_0 _ _) rfl (ev_gv (H309.ev rfl) h_))) ?_
     intro _ H311; clear H309
     refine gq_evG H311 rfl rfl rfl rfl (on_t _) rfl (by decide) (fun h_ wq hq => have HO := O283.after hq; (op_load1 gwagg9 rfl (ev_gv (H311.ev rfl) h_) (blk_at (HO.get 1 rfl) rfl))) ?_
     intro _ H313; clear H311
     refine gq_evG H313 rfl rfl rfl rfl (on_t _) rfl (by decide) (fun h_ wq hq => have HO := O283.after hq; (op_move rfl (H313.ev rfl))) ?_
     intro _ H315; clear H313
     refine gq_evG H315 rfl rfl rfl rfl (on_t _) rfl (by decide) (fun h_ wq hq => have HO := O283.after hq; (op_nil rfl (ev_gv (H315.ev rfl) h_))) ?_
     intro _ H317; clear H315
     refine gq_evG H317 rfl rfl rfl rfl (on_t _) rfl (by decide) (fun h_ wq hq => have HO := O283.after hq; (op_field (gwfld44_1 _ _) rfl (ev_gv (H317.ev rfl) h_))) ?_
     intro _ H319; clear H317
     refine gq_evG H319 rfl rfl rfl rfl (on_t _) rfl (by decide) (fun h_ wq hq => have HO := O283.after hq; (op_load1 gwagg3 rfl (ev_gv (H319.ev rfl) h_) (blk_at (HO.get 1 rfl) rfl))) ?_
     intro _ H321; clear H319
     refine gq_evG H321 rfl rfl rfl rfl (on_t _) rfl (by decide) (fun h_ wq hq => have HO := O283.after hq; (op_scut Tryz.underlying9 rfl (ev_gv (H321.ev rfl) h_) (some_ev (ev_gv (H321.ev rfl) h_)) rfl (sb_lo ⟨by (try simp only [Bool.and_eq_true, Bool.or_eq_true, Bool.and_eq_false_iff, Bool.or_eq_false_iff, Bool.not_and, Bool.not_or, Bool.not_not, decide_eq_true_eq, decide_eq_false_iff_not, Bool.not_eq_true', Bool.not_eq_false', Bool.not_eq_true, Bool.not_eq_false, ne_eq, Decidable.not_not, Int.not_lt, Int.not_le, not_true_eq_false, not_false_eq_true, bne_iff_ne, beq_iff_eq, bne_eq_false_iff_eq, beq_eq_false_iff_ne] at h_); omega, by (try simp only [Bool.and_eq_true, Bool.or_eq_true, Bool.and_eq_false_iff, Bool.or_eq_false_iff, Bool.not_and, Bool.not_or, Bool.not_not, decide_eq_true_eq, decide_eq_false_iff_not, Bool.not_eq_true', Bool.not_eq_false', Bool.not_eq_true, Bool.not_eq_false, ne_eq, Decidable.not_not, Int.not_lt, Int.not_le, not_true_eq_false, not_false_eq_true, bne_iff_ne, beq_iff_eq, bne_eq_false_iff_eq, beq_eq_false_iff_ne] at h_); omega⟩))) ?_
     intro _ H323; clear H321
     refine gq_callG H323 rfl rfl rfl rfl (on_t _) rfl (by decide) (fun h_ wq hq => have HO := O283.after hq; (op_callL Tryz.func34 (by kernel_rfl) rfl rfl (ar_cons (ev_gv (H323.ev rfl) h_) (ar_cons (ev_c _ _) ar_nil)))) (fun h_ wq hq => have HO := O283.after hq; (hasp_calls s (⟨#[45, 93]⟩ : ByteArray) ((s.size : Int) - r.length) _ (by (try simp only [Bool.and_eq_true, Bool.or_eq_true, Bool.and_eq_false_iff, Bool.or_eq_false_iff, Bool.not_and, Bool.not_or, Bool.not_not, decide_eq_true_eq, decide_eq_false_iff_not, Bool.not_eq_true', Bool.not_eq_false', Bool.not_eq_true, Bool.not_eq_false, ne_eq, Decidable.not_not, Int.not_lt, Int.not_le, not_true_eq_false, not_false_eq_true, bne_iff_ne, beq_iff_eq, bne_eq_false_iff_eq, beq_eq_false_iff_ne] at h_); omega)).mono fun e w' h => ⟨h.1, below_then hq h.2⟩) ?_
     intro _ H325; clear H323
     refine gq_evG H325 rfl rfl rfl rfl (on_t _) rfl (by decide) (fun h_ wq hq => have HO := O283.after hq; (op_not rfl (ev_gv (H325.ev rfl) h_))) ?_
     intro _ H327; clear H325
     refine gq_ev H327 (want_none rfl) rfl (by decide) (fun wq hq => have HO := O283.after hq; (op_pick_and rfl (H327.ev rfl) (fun hp_ => (ev_gv (H327.ev rfl) hp_)) (ev_c _ _))) ?_
     intro _ H329; clear H327
     refine gq_ev H329 (want_none rfl) rfl (by decide) (fun wq hq => have HO := O283.after hq; (op_move rfl (H329.ev rfl))) ?_
     intro _ H331; clear H329
     refine gq_evG H331 rfl rfl rfl rfl (on_t _) rfl (by decide) (fun h_ wq hq => have HO := O283.after hq; (op_move rfl (H331.ev rfl))) ?_
     intro _ H333; clear H331
     refine gq_evG H333 rfl rfl rfl rfl (on_t _) rfl (by decide) (fun h_ wq hq => have HO := O283.after hq; (op_nil rfl (ev_gv (H333.ev rfl) h_))) ?_
     intro _ H335; clear H333
     refine gq_evG H335 rfl rfl rfl rfl (on_t _) rfl (by decide) (fun h_ wq hq => have HO := O283.after hq; (op_field (gwfld44_1 _ _) rfl (ev_gv (H335.ev rfl) h_))) ?_
     intro _ H337; clear H335
     refine gq_evG H337 rfl rfl rfl rfl (on_t _) rfl (by decide) (fun h_ wq hq => have HO := O283.after hq; (op_load1 gwagg3 rfl (ev_gv (H337.ev rfl) h_) (blk_at (HO.get 1 rfl) rfl))) ?_
     intro _ H339; clear H337
     refine gq_evG H339 rfl rfl rfl rfl (on_t _) rfl (by decide) (fun h_ wq hq => have HO := O283.after hq; (op_add rfl (ev_gv (H339.ev rfl) h_) (ev_c _ _) (by (try simp only [Bool.and_eq_true, Bool.or_eq_true, Bool.and_eq_false_iff, Bool.or_eq_false_iff, Bool.not_and, Bool.not_or, Bool.not_not, decide_eq_true_eq, decide_eq_false_iff_not, Bool.not_eq_true', Bool.not_eq_false', Bool.not_eq_true, Bool.not_eq_false, ne_eq, Decidable.not_not, Int.not_lt, Int.not_le, not_true_eq_false, not_false_eq_true, bne_iff_ne, beq_iff_eq, bne_eq_false_iff_eq, beq_eq_false_iff_ne] at h_); omega))) ?_
     intro _ H341; clear H339
     refine gq_evG H341 rfl rfl rfl rfl (on_t _) rfl (by decide) (fun h_ wq hq => have HO := O283.after hq; (op_move rfl (H341.ev rfl))) ?_
     intro _ H343; clear H341
     refine gq_evG H343 rfl rfl rfl rfl (on_t _) rfl (by decide) (fun h_ wq hq => have HO := O283.after hq; (op_nil rfl (ev_gv (H343.ev rfl) h_))) ?_
     intro _ H345; clear H343
     refine gq_evG H345 rfl rfl rfl rfl (on_t _) rfl (by decide) (fun h_ wq hq => have HO := O283.after hq; (op_field (gwfld44_0 _ _) rfl (ev_gv (H345.ev rfl) h_))) ?_
     intro _ H347; clear H345
     refine gq_evG H347 rfl rfl rfl rfl (on_t _) rfl (by decide) (fun h_ wq hq => have HO := O283.after hq; (op_load1 gwagg9 rfl (ev_gv (H347.ev rfl) h_) (blk_at (HO.get 1 rfl) rfl))) ?_
     intro _ H349; clear H347
     refine gq_evG H349 rfl rfl rfl rfl (on_t _) rfl (by decide) (fun h_ wq hq => have HO := O283.after hq; (op_lens Tryz.underlying9 rfl (ev_gv (H349.ev rfl) h_))) ?_
     intro _ H351; clear H349
     refine gq_evG H351 rfl rfl rfl rfl (on_t _) rfl (by decide) (fun h_ wq hq => have HO := O283.after hq; (op_lss rfl (ev_gv (H351.ev rfl) h_) (ev_gv (H351.ev rfl) h_))) ?_
     intro _ H353; clear H351
     refine gq_ev H353 (want_none rfl) rfl (by decide) (fun wq hq => have HO := O283.after hq; (op_pick_and rfl (H353.ev rfl) (fun hp_ => (ev_gv (H353.ev rfl) hp_)) (ev_c _ _))) ?_
     intro _ H355; clear H353
     have H356 := H355.conv (v' := .bool (hyph r)) (congrArg Value.bool (hyph_eq s ((s.size : Int) - r.length) r (by omega) hrr))
     clear H355
     refine wpQuiet_nil ?_
     intro w357 hq
     have O358 := O283.after hq
     clear O283 hq
     refine gw_nx (hK281 _ _ ?_)
     refine gw_cond H356 rfl (fun hb359 => ?_) (fun hb359 => ?_)
     ·
      have H360 := H356.subst_ (d := 95) (b := true) rfl hb359
      clear H356
      (try simp only [Bool.not_eq_true] at hb359)
      have hhy : hyph r = true := by assumption
      have hltr : ((s.size : Int) - r.length) < s.size := by refine Int.not_le.1 fun h_ => ?_; have h2_ : r = [] := List.length_eq_zero_iff.1 (by omega); rw [h2_] at hhy; cases hhy
      have htl : rest_ s (((s.size : Int) - r.length) + 1) = r.tail := by have h_ := rest_cons s ((s.size : Int) - r.length) (by omega); rw [hrr] at h_; exact (congrArg List.tail h_).symm
      rcases hb2 : byteS (rest_ s (((s.size : Int) - r.length) + 1)) with _ | ⟨hi_, q2, r2⟩
      ·
       obtain ⟨q1, hq1⟩ := byte_none s (((s.size : Int) - r.length) + 1) wr2 (by omega) (by omega) hb2
       rw [if_neg hnb, if_pos hhy, show byteS r.tail = none by rw [← htl]; exact hb2] at hR; simp only at hR
       refine gR fun K361 hK361 => ?_
       refine V H360 (op_move rfl (H360.ev rfl)) ?_
       intro _ H363; clear H360
       refine V H363 (op_nil rfl (H363.ev rfl)) ?_
       intro _ H365; clear H363
       refine V H365 (op_field (gwfld44_1 _ _) rfl (H365.ev rfl)) ?_
       intro _ H367; clear H365
       refine V H367 (op_load1 gwagg3 rfl (H367.ev rfl) (blk_at (O358.get 1 rfl) rfl)) ?_
       intro _ H369; clear H367
       refine V H369 (op_add rfl (H369.ev rfl) (ev_c _ _) (by omega)) ?_
       intro _ H371; clear H369
       refine V H371 (op_nil rfl (H371.ev rfl)) ?_
       intro _ H373; clear H371
       refine V H373 (op_field (gwfld44_1 _ _) rfl (H373.ev rfl)) ?_
       intro _ H375; clear H373
       refine gw_set 1 H375 O358 rfl (want_none rfl) rfl (op_store1 gwsiz3 rfl (H375.ev rfl) (H375.ev rfl) rfl (blk_at (O358.get 1 rfl) rfl) (blkf (O358.get 1 rfl))) ?_
       intro _ w378 H377 O379; clear H375 O358
       refine gE hK361 ?_
       refine wp_region_lit ?_
       refine V H377 (op_move rfl (H377.ev rfl)) ?_
       intro _ H381; clear H377
       refine gw_call H381 (want_none rfl) rfl (by decide) (op_callL Tryz.func17 (by kernel_rfl) rfl rfl (ar_cons (H381.ev rfl) ar_nil)) (byte_calls gr s s (((s.size : Int) - r.length) + 1) 0 wr2 0 (s.size : Int) 31 (s.size : Int) q1 w0 _ (O379.lt 1 rfl rfl).1 O379.below (O379.get 1 rfl) (hq1)) ?_
       rintro e382 w383 ⟨rfl, hb384⟩
       refine ⟨_, rfl, fun _ H386 => ?_⟩
       have O387 := O379.calls 1 rfl hb384
       clear H381 O379 hb384
       refine V H386 (op_move rfl (H386.ev rfl)) ?_
       intro _ H390; clear H386
       refine V H390 (op_extract rfl (H390.ev rfl) rfl) ?_
       intro _ H392; clear H390
       refine V H392 (op_extract rfl (H392.ev rfl) rfl) ?_
       intro _ H394; clear H392
       refine V H394 (op_assign rfl (H394.ev rfl)) ?_
       intro _ H396; clear H394
       refine gE hK280 ?_
       refine gw_seq fun K397 hK397 => ?_
       refine gR fun K398 hK398 => ?_
       refine V H396 (op_move rfl (H396.ev rfl)) ?_
       intro _ H400; clear H396
       refine V H400 (op_nil rfl (H400.ev rfl)) ?_
       intro _ H402; clear H400
       refine V H402 (op_field (gwfld44_2 _ _) rfl (H402.ev rfl)) ?_
       intro _ H404; clear H402
       refine V H404 (op_load1 gwagg27 rfl (H404.ev rfl) (blk_at (O387.get 1 rfl) rfl)) ?_
       intro _ H406; clear H404
       refine V H406 (op_eqi rfl (H406.ev rfl) (ev_c _ _)) ?_
       intro _ H408; clear H406
       have H409 := H408.lit (b := false) (by decide)
       clear H408
       refine V H409 (op_move rfl (H409.ev rfl)) ?_
       intro _ H411; clear H409
       refine Vo H411 (wn H411 rfl rfl rfl rfl) ?_
       intro _ H413; clear H411
       refine Vo H413 (wn H413 rfl rfl rfl rfl) ?_
       intro _ H415; clear H413
       refine Vo H415 (wn H415 rfl rfl rfl rfl) ?_
       intro _ H417; clear H415
       refine V H417 (op_pick_f rfl (H417.ev rfl) (ev_c _ _)) ?_
       intro _ H419; clear H417
       refine gE hK398 ?_
       refine gw_cond H419 rfl (fun hb420 => ?_) (fun hb420 => ?_)
       skip
       ·
        cases hb420
       refine wp_skip ?_
       refine gw_nx (hK397 _ _ ?_)
       refine wp_region_lit ?_
       refine V H419 (op_move rfl (H419.ev rfl)) ?_
       intro _ H422; clear H419
       refine V H422 (op_move rfl (H422.ev rfl)) ?_
       intro _ H424; clear H422
       refine V H424 (op_move rfl (H424.ev rfl)) ?_
       intro _ H426; clear H424
       refine V H426 (op_build (cells := #[.int .u8 x, .int .u8 0]) rfl (pt_cons (H426.ev rfl) (pt_cons (H426.ev rfl) pt_nil)) (by kernel_rfl)) ?_
       intro _ H428; clear H426
       refine gw_news (O := .cells #[.int .u8 x, .int .u8 0] 55 (0, 0)) (n := 1) H428 O387 (want_none rfl) rfl (by decide) (op_bslice (by kernel_rfl) rfl (pt_cons (H428.ev rfl) pt_nil)) ?_
       intro g429 _ w431 H432 O433; clear H428 O387
       have O434 : Own w0 w431 [Bk g429 [.int .u8 x, .int .u8 0] 55, Chunk.row k55 55 w0.heap.size Sa (.slice Aa rs.length ca) rs, Bk gr [.string s, J (s.size : Int), J 31, J (s.size : Int)] 44, Bk g2 [J 0, .slice none 0 0, .slice none 0 0] 26, R] := O433
       clear O433
       have O435 : Own w0 _ [Chunk.row k55 55 w0.heap.size Sa (.slice Aa rs.length ca) rs, Chunk.void, Bk g429 [.int .u8 x, .int .u8 0] 55, Bk gr [.string s, J (s.size : Int), J 31, J (s.size : Int)] 44, Bk g2 [J 0, .slice none 0 0, .slice none 0 0] 26, R] := O434.void.sel [2, 0, 1, 3, 4, 5] (by decide)
       refine gw_append1 k55 0 (p := (⟨x, 0⟩ : S55)) (cs := [.int .u8 x, .int .u8 0]) H432 O435 (want_none rfl) rfl (by decide) rfl Tryz.underlying23 gwinfo55 rfl (by decide) (by decide) rfl (H432.ev rfl) (H432.ev rfl) (fun w_ h_ => k55_mkM w_ _ _ (⟨x, 0⟩ : S55) ) O435.below.size (by omega) ?_
       intro A436 c437 S438 _ w440 H441 O442; clear H432 O434 O435
       have O443 : Own w0 w440 [Chunk.row k55 55 w0.heap.size S438 (.slice A436 ((rs ++ [(⟨x, 0⟩ : S55)]).length) c437) (rs ++ [(⟨x, 0⟩ : S55)]), Bk g429 [.int .u8 x, .int .u8 0] 55, Bk gr [.string s, J (s.size : Int), J 31, J (s.size : Int)] 44, Bk g2 [J 0, .slice none 0 0, .slice none 0 0] 26, R] := O442
       clear O442
       refine V H441 (op_assign rfl (H441.ev rfl)) ?_
       intro _ H445; clear H441
       refine wpList_nil ?_
       refine gw_blk ?_
       refine gw_nx (hK179 _ _ ?_)
       refine wp_region_lit ?_
       refine V H445 (op_assign rfl (ev_c _ _)) ?_
       intro _ H447; clear H445
       refine wpList_nil ?_
       refine gw_nx ⟨_, ?_, (s.size : Int), 31, (s.size : Int), false, (rs ++ [(⟨x, 0⟩ : S55)]), A436, _, _, _, (H447.pick (t := 5) rfl (H447.pick (t := 4) rfl (H447.pick (t := 0) rfl (H447.pick (t := 2) rfl (H447.pick (t := 3) rfl H447.nil))))), O443.sel [0, 2, 3, 4] (by decide), ?_, ?_, ?_, ?_, ?_, rfl⟩
       ·
        rw [hm84]; omega
       ·
        omega
       ·
        intro r_ hr_; rcases List.mem_append.1 hr_ with h_ | h_; (exact hbs r_ h_); (rw [List.mem_singleton.1 h_]; dsimp only; omega)
       ·
        rw [List.length_append, List.length_singleton]; omega
       ·
        exact .inr ⟨by decide, rfl, 0, hR, by omega⟩
       ·
        rfl
      ·
       obtain ⟨hby2, hrr2, hp3, hp4⟩ := byte_ok s (((s.size : Int) - r.length) + 1) wr2 hi_ q2 r2 (by omega) (by omega) hb2
       have hx2 := byteS_range hb2
       have hr2l := byteS_lt hb2
       rw [if_neg hnb, if_pos hhy, show byteS r.tail = some (hi_, q2, r2) by rw [← htl]; exact hb2] at hR; simp only at hR
       refine gR fun K448 hK448 => ?_
       refine V H360 (op_move rfl (H360.ev rfl)) ?_
       intro _ H450; clear H360
       refine V H450 (op_nil rfl (H450.ev rfl)) ?_
       intro _ H452; clear H450
       refine V H452 (op_field (gwfld44_1 _ _) rfl (H452.ev rfl)) ?_
       intro _ H454; clear H452
       refine V H454 (op_load1 gwagg3 rfl (H454.ev rfl) (blk_at (O358.get 1 rfl) rfl)) ?_
       intro _ H456; clear H454
       refine V H456 (op_add rfl (H456.ev rfl) (ev_c _ _) (by omega)) ?_
       intro _ H458; clear H456
       refine V H458 (op_nil rfl (H458.ev rfl)) ?_
       intro _ H460; clear H458
       refine V H460 (op_field (gwfld44_1 _ _) rfl (H460.ev rfl)) ?_
       intro _ H462; clear H460
       refine gw_set 1 H462 O358 rfl (want_none rfl) rfl (op_store1 gwsiz3 rfl (H462.ev rfl) (H462.ev rfl) rfl (blk_at (O358.get 1 rfl) rfl) (blkf (O358.get 1 rfl))) ?_
       intro _ w465 H464 O466; clear H462 O358
       refine gE hK448 ?_
       refine wp_region_lit ?_
       refine V H464 (op_move rfl (H464.ev rfl)) ?_
       intro _ H468; clear H464
       refine gw_call H468 (want_none rfl) rfl (by decide) (op_callL Tryz.func17 (by kernel_rfl) rfl rfl (ar_cons (H468.ev rfl) ar_nil)) (byte_calls gr s s (((s.size : Int) - r.length) + 1) 0 wr2 hi_ ((s.size : Int) - r2.length) 0 wr2 q2 w0 _ (O466.lt 1 rfl rfl).1 O466.below (O466.get 1 rfl) (hby2)) ?_
       rintro e469 w470 ⟨rfl, hb471⟩
       refine ⟨_, rfl, fun _ H473 => ?_⟩
       have O474 := O466.calls 1 rfl hb471
       clear H468 O466 hb471
       refine V H473 (op_move rfl (H473.ev rfl)) ?_
       intro _ H477; clear H473
       refine V H477 (op_extract rfl (H477.ev rfl) rfl) ?_
       intro _ H479; clear H477
       refine V H479 (op_extract rfl (H479.ev rfl) rfl) ?_
       intro _ H481; clear H479
       refine V H481 (op_assign rfl (H481.ev rfl)) ?_
       intro _ H483; clear H481
       refine gE hK280 ?_
       refine gw_seq fun K484 hK484 => ?_
       refine gR fun K485 hK485 => ?_
       refine V H483 (op_move rfl (H483.ev rfl)) ?_
       intro _ H487; clear H483
       refine V H487 (op_nil rfl (H487.ev rfl)) ?_
       intro _ H489; clear H487
       refine V H489 (op_field (gwfld44_2 _ _) rfl (H489.ev rfl)) ?_
       intro _ H491; clear H489
       refine V H491 (op_load1 gwagg27 rfl (H491.ev rfl) (blk_at (O474.get 1 rfl) rfl)) ?_
       intro _ H493; clear H491
       refine V H493 (op_eqi rfl (H493.ev rfl) (ev_c _ _)) ?_
       intro _ H495; clear H493
       have H496 := H495.lit (b := true) (by decide)
       clear H495
       refine V H496 (op_move rfl (H496.ev rfl)) ?_
       intro _ H498; clear H496
       refine V2 H498 (want_yes H498 rfl rfl rfl rfl) (op_move rfl (H498.ev rfl)) ?_
       intro _ H500; clear H498
       refine V2 H500 (want_yes H500 rfl rfl rfl rfl) (op_move rfl (H500.ev rfl)) ?_
       intro _ H502; clear H500
       refine V2 H502 (want_yes H502 rfl rfl rfl rfl) (op_lss rfl (H502.ev rfl) (H502.ev rfl)) ?_
       intro _ H504; clear H502
       refine V H504 (op_pick_t rfl (H504.ev rfl) (H504.ev rfl)) ?_
       intro _ H506; clear H504
       refine gE hK485 ?_
       refine gw_cond H506 rfl (fun hb507 => ?_) (fun hb507 => ?_)
       ·
        have H508 := H506.subst_ (d := 117) (b := true) rfl hb507
        clear H506
        (try simp only [decide_eq_true_eq] at hb507)
        rw [if_pos (by assumption)] at hR
        refine gR fun K509 hK509 => ?_
        refine V H508 (op_move rfl (H508.ev rfl)) ?_
        intro _ H511; clear H508
        refine V H511 (op_move rfl (H511.ev rfl)) ?_
        intro _ H513; clear H511
        refine gw_call H513 (want_none rfl) rfl (by decide) (op_callL Tryz.func35 (by kernel_rfl) rfl rfl (ar_cons (H513.ev rfl) (ar_cons (ev_c _ _) (ar_cons (H513.ev rfl) ar_nil)))) (fail_calls gr s ((s.size : Int) - r2.length) 0 wr2 32 p w0 _ (O474.lt 1 rfl rfl).1 O474.below (O474.get 1 rfl) rfl) ?_
        rintro e514 w515 ⟨rfl, hb516⟩
        refine ⟨_, rfl, fun _ H518 => ?_⟩
        have O519 := O474.calls 1 rfl hb516
        clear H513 O474 hb516
        have O521 : Own w0 w515 [Chunk.row k55 55 w0.heap.size Sa (.slice Aa rs.length ca) rs, Bk gr [.string s, J (s.size : Int), J 32, J p] 44, Bk g2 [J 0, .slice none 0 0, .slice none 0 0] 26, R] := O519
        clear O519
        refine gE hK509 ?_
        refine wp_exit ?_
        refine gw_thx ?_
        refine gw_out (by decide) ?_
        refine gw_thx ?_
        refine gw_thx ?_
        refine gw_in ?_
        refine gw_nx (hK74 _ _ ?_)
        refine gR fun K522 hK522 => ?_
        refine V H518 (op_move rfl (H518.ev rfl)) ?_
        intro _ H524; clear H518
        refine V H524 (op_move rfl (H524.ev rfl)) ?_
        intro _ H526; clear H524
        refine gw_call H526 (want_none rfl) rfl (by decide) (op_callL Tryz.func36 (by kernel_rfl) rfl rfl (ar_cons (H526.ev rfl) (ar_cons (H526.ev rfl) ar_nil))) (Ranges_out Aa ca rs ((!(decide ((s.size : Int) ≤ i0))) && (decide ((bt s i0) = 33))) _ (Kd.R_reads' (O521.get 0 rfl)).2.2 (row_cap (O521.get 0 rfl)) (hbs) (by omega)) ?_
        rintro e530 w531 ⟨A527, c528, S529, rfl, hb532⟩
        refine ⟨_, rfl, fun _ H534 => ?_⟩
        have O535 := O521.fresh hb532
        have hbel536 := O521.below
        clear H526 O521 hb532
        have O537 := O535.lowrow 0 rfl (base' := w0.heap.size) (Below.size hbel536)
        refine V H534 (op_build (cells := #[J 1, .slice A527 ((canonP fun c_ => inR rs c_ != ((!(decide ((s.size : Int) ≤ i0))) && (decide ((bt s i0) = 33)))).length) c528, .slice none 0 0]) rfl (pt_cons (ev_c _ _) (pt_cons (H534.ev rfl) pt_nil)) (by kernel_rfl)) ?_
        intro _ H539; clear H534
        refine gw_setn 3 H539 O537 rfl (want_none rfl) rfl (op_storen gwsiz26 rfl (H539.ev rfl) (H539.ev rfl) (O537.get 3 rfl) rfl (by simp) (by simp [Value.oneCell'])) ?_
        intro _ w542 H541 O543; clear H539 O537
        refine gE hK522 ?_
        refine wp_ret ?_
        refine gw_rets1 H541 rfl (rv_celln H541 rfl gwagg26 gwsiz26 (O543.get 3 rfl) rfl) ?_
        have O544 := O543.row_view 0 rfl
        clear O543
        have O545 : Own w0 w542 [Chunk.view k55 S529 A527 ((canonP fun c_ => inR rs c_ != ((!(decide ((s.size : Int) ≤ i0))) && (decide ((bt s i0) = 33)))).length) c528 (canonP fun c_ => inR rs c_ != ((!(decide ((s.size : Int) ≤ i0))) && (decide ((bt s i0) = 33)))), Chunk.row k55 55 w0.heap.size Sa (.slice Aa rs.length ca) rs, Bk gr [.string s, J (s.size : Int), J 32, J p] 44, Bk g2 [J 1, .slice A527 ((canonP fun c_ => inR rs c_ != ((!(decide ((s.size : Int) ≤ i0))) && (decide ((bt s i0) = 33)))).length) c528, .slice none 0 0] 26, R] := O544
        clear O544
        exact ⟨_, _, _, _, _, _, _, rfl, O545.sel [4, 2, 0] (by decide), cls_bad (e := 32) (m := (rest_ s p).length) (by rw [← hRES]; exact hR.symm) rfl rfl (by decide) (by omega)⟩
       ·
        have H546 := H506.subst_ (d := 117) (b := false) rfl hb507
        clear H506
        (try simp only [decide_eq_false_iff_not, Int.not_lt] at hb507)
        rw [if_neg (by omega)] at hR
        refine wp_skip ?_
        refine gw_nx (hK484 _ _ ?_)
        refine wp_region_lit ?_
        refine V H546 (op_move rfl (H546.ev rfl)) ?_
        intro _ H548; clear H546
        refine V H548 (op_move rfl (H548.ev rfl)) ?_
        intro _ H550; clear H548
        refine V H550 (op_move rfl (H550.ev rfl)) ?_
        intro _ H552; clear H550
        refine V H552 (op_build (cells := #[.int .u8 x, .int .u8 hi_]) rfl (pt_cons (H552.ev rfl) (pt_cons (H552.ev rfl) pt_nil)) (by kernel_rfl)) ?_
        intro _ H554; clear H552
        refine gw_news (O := .cells #[.int .u8 x, .int .u8 hi_] 55 (0, 0)) (n := 1) H554 O474 (want_none rfl) rfl (by decide) (op_bslice (by kernel_rfl) rfl (pt_cons (H554.ev rfl) pt_nil)) ?_
        intro g555 _ w557 H558 O559; clear H554 O474
        have O560 : Own w0 w557 [Bk g555 [.int .u8 x, .int .u8 hi_] 55, Chunk.row k55 55 w0.heap.size Sa (.slice Aa rs.length ca) rs, Bk gr [.string s, J ((s.size : Int) - r2.length), J 0, J wr2] 44, Bk g2 [J 0, .slice none 0 0, .slice none 0 0] 26, R] := O559
        clear O559
        have O561 : Own w0 _ [Chunk.row k55 55 w0.heap.size Sa (.slice Aa rs.length ca) rs, Chunk.void, Bk g555 [.int .u8 x, .int .u8 hi_] 55, Bk gr [.string s, J ((s.size : Int) - r2.length), J 0, J wr2] 44, Bk g2 [J 0, .slice none 0 0, .slice none 0 0] 26, R] := O560.void.sel [2, 0, 1, 3, 4, 5] (by decide)
        refine gw_append1 k55 0 (p := (⟨x, hi_⟩ : S55)) (cs := [.int .u8 x, .int .u8 hi_]) H558 O561 (want_none rfl) rfl (by decide) rfl Tryz.underlying23 gwinfo55 rfl (by decide) (by decide) rfl (H558.ev rfl) (H558.ev rfl) (fun w_ h_ => k55_mkM w_ _ _ (⟨x, hi_⟩ : S55) ) O561.below.size (by omega) ?_
        intro A562 c563 S564 _ w566 H567 O568; clear H558 O560 O561
        have O569 : Own w0 w566 [Chunk.row k55 55 w0.heap.size S564 (.slice A562 ((rs ++ [(⟨x, hi_⟩ : S55)]).length) c563) (rs ++ [(⟨x, hi_⟩ : S55)]), Bk g555 [.int .u8 x, .int .u8 hi_] 55, Bk gr [.string s, J ((s.size : Int) - r2.length), J 0, J wr2] 44, Bk g2 [J 0, .slice none 0 0, .slice none 0 0] 26, R] := O568
        clear O568
        refine V H567 (op_assign rfl (H567.ev rfl)) ?_
        intro _ H571; clear H567
        refine wpList_nil ?_
        refine gw_blk ?_
        refine gw_nx (hK179 _ _ ?_)
        refine wp_region_lit ?_
        refine V H571 (op_assign rfl (ev_c _ _)) ?_
        intro _ H573; clear H571
        refine wpList_nil ?_
        refine gw_nx ⟨_, ?_, ((s.size : Int) - r2.length), 0, wr2, false, (rs ++ [(⟨x, hi_⟩ : S55)]), A562, _, _, _, (H573.pick (t := 5) rfl (H573.pick (t := 4) rfl (H573.pick (t := 0) rfl (H573.pick (t := 2) rfl (H573.pick (t := 3) rfl H573.nil))))), O569.sel [0, 2, 3, 4] (by decide), ?_, ?_, ?_, ?_, ?_, rfl⟩
        ·
         rw [hm84]; omega
        ·
         omega
        ·
         intro r_ hr_; rcases List.mem_append.1 hr_ with h_ | h_; (exact hbs r_ h_); (rw [List.mem_singleton.1 h_]; dsimp only; omega)
        ·
         rw [List.length_append, List.length_singleton]; omega
        ·
         exact .inl ⟨rfl, hw0, k, by (try rw [hrr2]); (try rw [hrr]); omega, by (try rw [hrr2]); (try rw [hrr]); exact hR.symm⟩
        ·
         rfl
     ·
      have H574 := H356.subst_ (d := 95) (b := false) rfl hb359
      clear H356
      (try simp only [Bool.not_eq_true] at hb359)
      have hhy : ¬ hyph r = true := by rw [hb359]; simp
      rw [if_neg hnb, if_neg hhy] at hR
      refine wp_skip ?_
      refine gw_nx (hK280 _ _ ?_)
      refine gw_seq fun K575 hK575 => ?_
      refine gR fun K576 hK576 => ?_
      refine V H574 (op_move rfl (H574.ev rfl)) ?_
      intro _ H578; clear H574
      refine V H578 (op_nil rfl (H578.ev rfl)) ?_
      intro _ H580; clear H578
      refine V H580 (op_field (gwfld44_2 _ _) rfl (H580.ev rfl)) ?_
      intro _ H582; clear H580
      refine V H582 (op_load1 gwagg27 rfl (H582.ev rfl) (blk_at (O358.get 1 rfl) rfl)) ?_
      intro _ H584; clear H582
      refine V H584 (op_eqi rfl (H584.ev rfl) (ev_c _ _)) ?_
      intro _ H586; clear H584
      have H587 := H586.lit (b := true) (by decide)
      clear H586
      refine V H587 (op_move rfl (H587.ev rfl)) ?_
      intro _ H589; clear H587
      refine V2 H589 (want_yes H589 rfl rfl rfl rfl) (op_move rfl (H589.ev rfl)) ?_
      intro _ H591; clear H589
      refine V2 H591 (want_yes H591 rfl rfl rfl rfl) (op_move rfl (H591.ev rfl)) ?_
      intro _ H593; clear H591
      refine V2 H593 (want_yes H593 rfl rfl rfl rfl) (op_lss rfl (H593.ev rfl) (H593.ev rfl)) ?_
      intro _ H595; clear H593
      refine V H595 (op_pick_t rfl (H595.ev rfl) (H595.ev rfl)) ?_
      intro _ H597; clear H595
      have H598 := H597.lit (b := false) (by simp)
      clear H597
      refine gE hK576 ?_
      refine gw_cond H598 rfl (fun hb599 => ?_) (fun hb599 => ?_)
      skip
      ·
       cases hb599
      refine wp_skip ?_
      refine gw_nx (hK575 _ _ ?_)
      refine wp_region_lit ?_
      refine V H598 (op_move rfl (H598.ev rfl)) ?_
      intro _ H601; clear H598
      refine V H601 (op_move rfl (H601.ev rfl)) ?_
      intro _ H603; clear H601
      refine V H603 (op_move rfl (H603.ev rfl)) ?_
      intro _ H605; clear H603
      refine V H605 (op_build (cells := #[.int .u8 x, .int .u8 x]) rfl (pt_cons (H605.ev rfl) (pt_cons (H605.ev rfl) pt_nil)) (by kernel_rfl)) ?_
      intro _ H607; clear H605
      refine gw_news (O := .cells #[.int .u8 x, .int .u8 x] 55 (0, 0)) (n := 1) H607 O358 (want_none rfl) rfl (by decide) (op_bslice (by kernel_rfl) rfl (pt_cons (H607.ev rfl) pt_nil)) ?_
      intro g608 _ w610 H611 O612; clear H607 O358
      have O613 : Own w0 w610 [Bk g608 [.int .u8 x, .int .u8 x] 55, Chunk.row k55 55 w0.heap.size Sa (.slice Aa rs.length ca) rs, Bk gr [.string s, J ((s.size : Int) - r.length), J 0, J wr2] 44, Bk g2 [J 0, .slice none 0 0, .slice none 0 0] 26, R] := O612
      clear O612
      have O614 : Own w0 _ [Chunk.row k55 55 w0.heap.size Sa (.slice Aa rs.length ca) rs, Chunk.void, Bk g608 [.int .u8 x, .int .u8 x] 55, Bk gr [.string s, J ((s.size : Int) - r.length), J 0, J wr2] 44, Bk g2 [J 0, .slice none 0 0, .slice none 0 0] 26, R] := O613.void.sel [2, 0, 1, 3, 4, 5] (by decide)
      refine gw_append1 k55 0 (p := (⟨x, x⟩ : S55)) (cs := [.int .u8 x, .int .u8 x]) H611 O614 (want_none rfl) rfl (by decide) rfl Tryz.underlying23 gwinfo55 rfl (by decide) (by decide) rfl (H611.ev rfl) (H611.ev rfl) (fun w_ h_ => k55_mkM w_ _ _ (⟨x, x⟩ : S55) ) O614.below.size (by omega) ?_
      intro A615 c616 S617 _ w619 H620 O621; clear H611 O613 O614
      have O622 : Own w0 w619 [Chunk.row k55 55 w0.heap.size S617 (.slice A615 ((rs ++ [(⟨x, x⟩ : S55)]).length) c616) (rs ++ [(⟨x, x⟩ : S55)]), Bk g608 [.int .u8 x, .int .u8 x] 55, Bk gr [.string s, J ((s.size : Int) - r.length), J 0, J wr2] 44, Bk g2 [J 0, .slice none 0 0, .slice none 0 0] 26, R] := O621
      clear O621
      refine V H620 (op_assign rfl (H620.ev rfl)) ?_
      intro _ H624; clear H620
      refine wpList_nil ?_
      refine gw_blk ?_
      refine gw_nx (hK179 _ _ ?_)
      refine wp_region_lit ?_
      refine V H624 (op_assign rfl (ev_c _ _)) ?_
      intro _ H626; clear H624
      refine wpList_nil ?_
      refine gw_nx ⟨_, ?_, ((s.size : Int) - r.length), 0, wr2, false, (rs ++ [(⟨x, x⟩ : S55)]), A615, _, _, _, (H626.pick (t := 5) rfl (H626.pick (t := 4) rfl (H626.pick (t := 0) rfl (H626.pick (t := 2) rfl (H626.pick (t := 3) rfl H626.nil))))), O622.sel [0, 2, 3, 4] (by decide), ?_, ?_, ?_, ?_, ?_, rfl⟩
      ·
       rw [hm84]; omega
      ·
       omega
      ·
       intro r_ hr_; rcases List.mem_append.1 hr_ with h_ | h_; (exact hbs r_ h_); (rw [List.mem_singleton.1 h_]; dsimp only; omega)
      ·
       rw [List.length_append, List.length_singleton]; omega
      ·
       exact .inl ⟨rfl, hw0, k, by (try rw [hrr2]); (try rw [hrr]); omega, by (try rw [hrr2]); (try rw [hrr]); exact hR.symm⟩
      ·
       rfl
   ·
    subst hpe
    refine gw_seq fun K627 hK627 => ?_
    refine wp_block ?_
    refine gR fun K628 hK628 => ?_
    refine V H82 (op_move rfl (H82.ev rfl)) ?_
    intro _ H630; clear H82
    refine V H630 (op_nil rfl (H630.ev rfl)) ?_
    intro _ H632; clear H630
    refine V H632 (op_field (gwfld44_1 _ _) rfl (H632.ev rfl)) ?_
    intro _ H634; clear H632
    refine V H634 (op_load1 gwagg3 rfl (H634.ev rfl) (blk_at (O83.get 1 rfl) rfl)) ?_
    intro _ H636; clear H634
    refine V H636 (op_assign rfl (H636.ev rfl)) ?_
    intro _ H638; clear H636
    refine gE hK628 ?_
    refine gR fun K639 hK639 => ?_
    refine V H638 (op_move rfl (H638.ev rfl)) ?_
    intro _ H641; clear H638
    refine gw_call H641 (want_none rfl) rfl (by decide) (op_callL Tryz.func17 (by kernel_rfl) rfl rfl (ar_cons (H641.ev rfl) ar_nil)) (byte_calls gr s s (s.size : Int) cd2 wr2 0 (s.size : Int) cd2 wr2 false w0 _ (O83.lt 1 rfl rfl).1 O83.below (O83.get 1 rfl) (byte_bad s cd2 wr2 (by omega) hc0)) ?_
    rintro e642 w643 ⟨rfl, hb644⟩
    refine ⟨_, rfl, fun _ H646 => ?_⟩
    have O647 := O83.calls 1 rfl hb644
    clear H641 O83 hb644
    refine V H646 (op_move rfl (H646.ev rfl)) ?_
    intro _ H650; clear H646
    refine V H650 (op_extract rfl (H650.ev rfl) rfl) ?_
    intro _ H652; clear H650
    refine V H652 (op_extract rfl (H652.ev rfl) rfl) ?_
    intro _ H654; clear H652
    refine V H654 (op_assign rfl (H654.ev rfl)) ?_
    intro _ H656; clear H654
    refine V H656 (op_assign rfl (H656.ev rfl)) ?_
    intro _ H658; clear H656
    refine gE hK639 ?_
    refine gw_seq fun K659 hK659 => ?_
    refine gR fun K660 hK660 => ?_
    refine V H658 (op_move rfl (H658.ev rfl)) ?_
    intro _ H662; clear H658
    refine V H662 (op_nil rfl (H662.ev rfl)) ?_
    intro _ H664; clear H662
    refine V H664 (op_field (gwfld44_2 _ _) rfl (H664.ev rfl)) ?_
    intro _ H666; clear H664
    refine V H666 (op_load1 gwagg27 rfl (H666.ev rfl) (blk_at (O647.get 1 rfl) rfl)) ?_
    intro _ H668; clear H666
    refine V H668 (op_nei rfl (H668.ev rfl) (ev_c _ _)) ?_
    intro _ H670; clear H668
    have H671 := H670.lit (b := true) (decide_eq_true hc0)
    clear H670
    refine V H671 (op_move rfl (H671.ev rfl)) ?_
    intro _ H673; clear H671
    refine Vo H673 (wn H673 rfl rfl rfl rfl) ?_
    intro _ H675; clear H673
    refine Vo H675 (wn H675 rfl rfl rfl rfl) ?_
    intro _ H677; clear H675
    refine Vo H677 (wn H677 rfl rfl rfl rfl) ?_
    intro _ H679; clear H677
    refine Vo H679 (want_undef H679 rfl rfl rfl rfl) ?_
    intro _ H681; clear H679
    refine Vo H681 (want_undef H681 rfl rfl rfl rfl) ?_
    intro _ H683; clear H681
    refine Vo H683 (wn H683 rfl rfl rfl rfl) ?_
    intro _ H685; clear H683
    refine Vo H685 (wn H685 rfl rfl rfl rfl) ?_
    intro _ H687; clear H685
    refine Vo H687 (want_undef H687 rfl rfl rfl rfl) ?_
    intro _ H689; clear H687
    refine Vo H689 (want_undef H689 rfl rfl rfl rfl) ?_
    intro _ H691; clear H689
    refine Vo H691 (wn H691 rfl rfl rfl rfl) ?_
    intro _ H693; clear H691
    refine V H693 (op_pick_t rfl (H693.ev rfl) (ev_c _ _)) ?_
    intro _ H695; clear H693
    refine gE hK660 ?_
    refine gw_cond H695 rfl (fun hb696 => ?_) (fun hb696 => ?_)
    rotate_left
    ·
     cases hb696
    refine wp_exit ?_
    refine gw_thx ?_
    refine gw_out (by decide) ?_
    refine gw_thx ?_
    refine gw_thx ?_
    refine gw_in ?_
    refine gw_nx (hK74 _ _ ?_)
    refine gR fun K697 hK697 => ?_
    refine V H695 (op_move rfl (H695.ev rfl)) ?_
    intro _ H699; clear H695
    refine V H699 (op_move rfl (H699.ev rfl)) ?_
    intro _ H701; clear H699
    refine gw_call H701 (want_none rfl) rfl (by decide) (op_callL Tryz.func36 (by kernel_rfl) rfl rfl (ar_cons (H701.ev rfl) (ar_cons (H701.ev rfl) ar_nil))) (Ranges_out Aa ca rs ((!(decide ((s.size : Int) ≤ i0))) && (decide ((bt s i0) = 33))) _ (Kd.R_reads' (O647.get 0 rfl)).2.2 (row_cap (O647.get 0 rfl)) (hbs) (by omega)) ?_
    rintro e705 w706 ⟨A702, c703, S704, rfl, hb707⟩
    refine ⟨_, rfl, fun _ H709 => ?_⟩
    have O710 := O647.fresh hb707
    have hbel711 := O647.below
    clear H701 O647 hb707
    have O712 := O710.lowrow 0 rfl (base' := w0.heap.size) (Below.size hbel711)
    refine V H709 (op_build (cells := #[J 1, .slice A702 ((canonP fun c_ => inR rs c_ != ((!(decide ((s.size : Int) ≤ i0))) && (decide ((bt s i0) = 33)))).length) c703, .slice none 0 0]) rfl (pt_cons (ev_c _ _) (pt_cons (H709.ev rfl) pt_nil)) (by kernel_rfl)) ?_
    intro _ H714; clear H709
    refine gw_setn 3 H714 O712 rfl (want_none rfl) rfl (op_storen gwsiz26 rfl (H714.ev rfl) (H714.ev rfl) (O712.get 3 rfl) rfl (by simp) (by simp [Value.oneCell'])) ?_
    intro _ w717 H716 O718; clear H714 O712
    refine gE hK697 ?_
    refine wp_ret ?_
    refine gw_rets1 H716 rfl (rv_celln H716 rfl gwagg26 gwsiz26 (O718.get 3 rfl) rfl) ?_
    have O719 := O718.row_view 0 rfl
    clear O718
    have O720 : Own w0 w717 [Chunk.view k55 S704 A702 ((canonP fun c_ => inR rs c_ != ((!(decide ((s.size : Int) ≤ i0))) && (decide ((bt s i0) = 33)))).length) c703 (canonP fun c_ => inR rs c_ != ((!(decide ((s.size : Int) ≤ i0))) && (decide ((bt s i0) = 33)))), Chunk.row k55 55 w0.heap.size Sa (.slice Aa rs.length ca) rs, Bk gr [.string s, J (s.size : Int), J cd2, J wr2] 44, Bk g2 [J 1, .slice A702 ((canonP fun c_ => inR rs c_ != ((!(decide ((s.size : Int) ≤ i0))) && (decide ((bt s i0) = 33)))).length) c703, .slice none 0 0] 26, R] := O719
    clear O719
    exact ⟨_, _, _, _, _, _, _, rfl, O720.sel [4, 2, 0] (by decide), cls_bad (e := cd2) (m := m) (by rw [← hRES]; exact hR.symm) rfl rfl hc0 hw0⟩
 ·
  have H721 := H48.subst_ (d := 25) (b := false) rfl hb49
  clear H48
  (try simp only [Bool.and_eq_true, Bool.and_eq_false_iff, Bool.not_and, Bool.or_eq_true, Bool.or_eq_false_iff, Bool.not_or, Bool.not_not, Bool.not_eq_true', Bool.not_eq_false', Bool.not_eq_true, Bool.not_eq_false, decide_eq_true_eq, decide_eq_false_iff_not, Int.not_le] at hb49)
  have hbang : ¬ (rest_ s i0).head? = some 33 := by intro h_; have h2_ := head_bang s i0 hi; rw [h_] at h2_; simp at h2_; rcases hb49 with h3_ | h3_ <;> omega
  refine wp_skip ?_
  refine gw_nx (hK45 _ _ ?_)
  refine gR fun K722 hK722 => ?_
  refine V H721 (op_assign rfl (ev_c _ _)) ?_
  intro _ H724; clear H721
  have O725 := O44.row_nil k55 55 w0.heap.size
  clear O44
  have O726 : Own w0 w43 [Chunk.row k55 55 w0.heap.size (fun _ => False) (.slice none (([] : List S55).length) 0) ([] : List S55), Bk g2 [J 0, .slice none 0 0, .slice none 0 0] 26, R, Bk gr [.string s, J i0, J 0, J wr] 44] := O725
  clear O725
  refine gE hK722 ?_
  refine gw_seq fun K727 hK727 => ?_
  refine gR fun K728 hK728 => ?_
  refine V H724 (op_assign rfl (ev_c _ _)) ?_
  intro _ H730; clear H724
  refine gE hK728 ?_
  refine wp_block ?_
  refine gw_loop (fun m_ a_ w_ => ∃ (p : Int) (cd2 : Int) (wr2 : Int) (fst : Bool) (rs : List S55) (Aa : Option Addr) (ca : Nat) (Sa : Nat → Prop) (no : Nat), Fr 131 a_ [(5, .bool fst), (4, .slice Aa no ca), (0, .pointer (some ⟨gr, 0, none⟩)), (2, .pointer (some ⟨g2, 0, none⟩)), (3, .bool ((!(decide ((s.size : Int) ≤ i0))) && (decide ((bt s i0) = 33))))] ∧ Own w0 w_ [Chunk.row k55 55 w0.heap.size Sa (.slice Aa no ca) rs, Bk gr [.string s, J p, J cd2, J wr2] 44, Bk g2 [J 0, .slice none 0 0, .slice none 0 0] 26, R] ∧ (0 ≤ p ∧ p ≤ s.size) ∧ (∀ r_ ∈ rs, 0 ≤ r_.f0 ∧ r_.f1 ≤ 255) ∧ ((rs.length : Int) ≤ p) ∧ (clsI s wr RES p cd2 wr2 fst rs) ∧ (no = rs.length) ∧ m_ = (s.size - p.toNat)) ((s.size - (i0 : Int).toNat)) ?_ ?_
  ·
   refine ⟨i0, 0, wr, true, ([] : List S55), none, _, _, _, (H730.pick (t := 5) rfl (H730.pick (t := 4) rfl (H730.pick (t := 0) rfl (H730.pick (t := 2) rfl (H730.pick (t := 3) rfl H730.nil))))), O726.sel [0, 3, 1, 2] (by decide), ?_, ?_, ?_, ?_, ?_, rfl⟩
   ·
    omega
   ·
    intro r_ hr_; simp at hr_
   ·
    show (0 : Int) ≤ _; omega
   ·
    exact .inl ⟨rfl, rfl, (rest_ s i0).length + 1, Nat.lt_succ_self _, by rw [hRES, if_neg hbang]⟩
   ·
    rfl
  ·
   rintro m732 _ w734 ⟨p, cd2, wr2, fst, rs, Aa, ca, Sa, no, H735, O736, hp, hbs, hlen, hD, hno, hm737⟩
   subst hno
   have hrl := rest_len s p hp
   rcases cls_in hD with ⟨hc0, hw0, hb1, hR⟩ | ⟨x, q, r, k, hc0, hw0, hb1, hk, hR⟩ | ⟨hc0, hpe, m, hR, hw0⟩
   ·
    subst hc0
    obtain ⟨q0, hq0⟩ := byte_none s p wr2 hp (by omega) hb1
    refine gw_seq fun K738 hK738 => ?_
    refine wp_block ?_
    refine gR fun K739 hK739 => ?_
    refine V H735 (op_move rfl (H735.ev rfl)) ?_
    intro _ H741; clear H735
    refine V H741 (op_nil rfl (H741.ev rfl)) ?_
    intro _ H743; clear H741
    refine V H743 (op_field (gwfld44_1 _ _) rfl (H743.ev rfl)) ?_
    intro _ H745; clear H743
    refine V H745 (op_load1 gwagg3 rfl (H745.ev rfl) (blk_at (O736.get 1 rfl) rfl)) ?_
    intro _ H747; clear H745
    refine V H747 (op_assign rfl (H747.ev rfl)) ?_
    intro _ H749; clear H747
    refine gE hK739 ?_
    refine gR fun K750 hK750 => ?_
    refine V H749 (op_move rfl (H749.ev rfl)) ?_
    intro _ H752; clear H749
    refine gw_call H752 (want_none rfl) rfl (by decide) (op_callL Tryz.func17 (by kernel_rfl) rfl rfl (ar_cons (H752.ev rfl) ar_nil)) (byte_calls gr s s p 0 wr2 0 (s.size : Int) 31 (s.size : Int) q0 w0 _ (O736.lt 1 rfl rfl).1 O736.below (O736.get 1 rfl) (hq0)) ?_
    rintro e753 w754 ⟨rfl, hb755⟩
    refine ⟨_, rfl, fun _ H757 => ?_⟩
    have O758 := O736.calls 1 rfl hb755
    clear H752 O736 hb755
    refine V H757 (op_move rfl (H757.ev rfl)) ?_
    intro _ H761; clear H757
    refine V H761 (op_extract rfl (H761.ev rfl) rfl) ?_
    intro _ H763; clear H761
    refine V H763 (op_extract rfl (H763.ev rfl) rfl) ?_
    intro _ H765; clear H763
    refine V H765 (op_assign rfl (H765.ev rfl)) ?_
    intro _ H767; clear H765
    refine V H767 (op_assign rfl (H767.ev rfl)) ?_
    intro _ H769; clear H767
    refine gE hK750 ?_
    refine gw_seq fun K770 hK770 => ?_
    refine gR fun K771 hK771 => ?_
    refine V H769 (op_move rfl (H769.ev rfl)) ?_
    intro _ H773; clear H769
    refine V H773 (op_nil rfl (H773.ev rfl)) ?_
    intro _ H775; clear H773
    refine V H775 (op_field (gwfld44_2 _ _) rfl (H775.ev rfl)) ?_
    intro _ H777; clear H775
    refine V H777 (op_load1 gwagg27 rfl (H777.ev rfl) (blk_at (O758.get 1 rfl) rfl)) ?_
    intro _ H779; clear H777
    refine V H779 (op_nei rfl (H779.ev rfl) (ev_c _ _)) ?_
    intro _ H781; clear H779
    refine V H781 (op_move rfl (H781.ev rfl)) ?_
    intro _ H783; clear H781
    have H784 := H783.lit (b := true) (by decide)
    clear H783
    refine Vo H784 (wn H784 rfl rfl rfl rfl) ?_
    intro _ H786; clear H784
    refine Vo H786 (wn H786 rfl rfl rfl rfl) ?_
    intro _ H788; clear H786
    refine Vo H788 (wn H788 rfl rfl rfl rfl) ?_
    intro _ H790; clear H788
    refine Vo H790 (want_undef H790 rfl rfl rfl rfl) ?_
    intro _ H792; clear H790
    refine Vo H792 (want_undef H792 rfl rfl rfl rfl) ?_
    intro _ H794; clear H792
    refine Vo H794 (wn H794 rfl rfl rfl rfl) ?_
    intro _ H796; clear H794
    refine Vo H796 (wn H796 rfl rfl rfl rfl) ?_
    intro _ H798; clear H796
    refine Vo H798 (want_undef H798 rfl rfl rfl rfl) ?_
    intro _ H800; clear H798
    refine Vo H800 (want_undef H800 rfl rfl rfl rfl) ?_
    intro _ H802; clear H800
    refine Vo H802 (wn H802 rfl rfl rfl rfl) ?_
    intro _ H804; clear H802
    refine V H804 (op_pick_t rfl (H804.ev rfl) (ev_c _ _)) ?_
    intro _ H806; clear H804
    refine gE hK771 ?_
    refine gw_cond H806 rfl (fun hb807 => ?_) (fun hb807 => ?_)
    rotate_left
    ·
     cases hb807
    refine wp_exit ?_
    refine gw_thx ?_
    refine gw_out (by decide) ?_
    refine gw_thx ?_
    refine gw_thx ?_
    refine gw_in ?_
    refine gw_nx (hK727 _ _ ?_)
    refine gR fun K808 hK808 => ?_
    refine V H806 (op_move rfl (H806.ev rfl)) ?_
    intro _ H810; clear H806
    refine V H810 (op_move rfl (H810.ev rfl)) ?_
    intro _ H812; clear H810
    refine gw_call H812 (want_none rfl) rfl (by decide) (op_callL Tryz.func36 (by kernel_rfl) rfl rfl (ar_cons (H812.ev rfl) (ar_cons (H812.ev rfl) ar_nil))) (Ranges_out Aa ca rs ((!(decide ((s.size : Int) ≤ i0))) && (decide ((bt s i0) = 33))) _ (Kd.R_reads' (O758.get 0 rfl)).2.2 (row_cap (O758.get 0 rfl)) (hbs) (by omega)) ?_
    rintro e816 w817 ⟨A813, c814, S815, rfl, hb818⟩
    refine ⟨_, rfl, fun _ H820 => ?_⟩
    have O821 := O758.fresh hb818
    have hbel822 := O758.below
    clear H812 O758 hb818
    have O823 := O821.lowrow 0 rfl (base' := w0.heap.size) (Below.size hbel822)
    refine V H820 (op_build (cells := #[J 1, .slice A813 ((canonP fun c_ => inR rs c_ != ((!(decide ((s.size : Int) ≤ i0))) && (decide ((bt s i0) = 33)))).length) c814, .slice none 0 0]) rfl (pt_cons (ev_c _ _) (pt_cons (H820.ev rfl) pt_nil)) (by kernel_rfl)) ?_
    intro _ H825; clear H820
    refine gw_setn 3 H825 O823 rfl (want_none rfl) rfl (op_storen gwsiz26 rfl (H825.ev rfl) (H825.ev rfl) (O823.get 3 rfl) rfl (by simp) (by simp [Value.oneCell'])) ?_
    intro _ w828 H827 O829; clear H825 O823
    refine gE hK808 ?_
    refine wp_ret ?_
    refine gw_rets1 H827 rfl (rv_celln H827 rfl gwagg26 gwsiz26 (O829.get 3 rfl) rfl) ?_
    have O830 := O829.row_view 0 rfl
    clear O829
    have O831 : Own w0 w828 [Chunk.view k55 S815 A813 ((canonP fun c_ => inR rs c_ != ((!(decide ((s.size : Int) ≤ i0))) && (decide ((bt s i0) = 33)))).length) c814 (canonP fun c_ => inR rs c_ != ((!(decide ((s.size : Int) ≤ i0))) && (decide ((bt s i0) = 33)))), Chunk.row k55 55 w0.heap.size Sa (.slice Aa rs.length ca) rs, Bk gr [.string s, J (s.size : Int), J 31, J (s.size : Int)] 44, Bk g2 [J 1, .slice A813 ((canonP fun c_ => inR rs c_ != ((!(decide ((s.size : Int) ≤ i0))) && (decide ((bt s i0) = 33)))).length) c814, .slice none 0 0] 26, R] := O830
    clear O830
    exact ⟨_, _, _, _, _, _, _, rfl, O831.sel [4, 2, 0] (by decide), cls_bad (e := 31) (m := 0) (by rw [← hRES]; exact hR.symm) rfl rfl (by decide) (by omega)⟩
   ·
    subst hc0
    obtain ⟨hby, hrr, hp1, hp2⟩ := byte_ok s p wr2 x q r hp (by omega) hb1
    have hx := byteS_range hb1
    refine gw_seq fun K832 hK832 => ?_
    refine wp_block ?_
    refine gR fun K833 hK833 => ?_
    refine V H735 (op_move rfl (H735.ev rfl)) ?_
    intro _ H835; clear H735
    refine V H835 (op_nil rfl (H835.ev rfl)) ?_
    intro _ H837; clear H835
    refine V H837 (op_field (gwfld44_1 _ _) rfl (H837.ev rfl)) ?_
    intro _ H839; clear H837
    refine V H839 (op_load1 gwagg3 rfl (H839.ev rfl) (blk_at (O736.get 1 rfl) rfl)) ?_
    intro _ H841; clear H839
    refine V H841 (op_assign rfl (H841.ev rfl)) ?_
    intro _ H843; clear H841
    refine gE hK833 ?_
    refine gR fun K844 hK844 => ?_
    refine V H843 (op_move rfl (H843.ev rfl)) ?_
    intro _ H846; clear H843
    refine gw_call H846 (want_none rfl) rfl (by decide) (op_callL Tryz.func17 (by kernel_rfl) rfl rfl (ar_cons (H846.ev rfl) ar_nil)) (byte_calls gr s s p 0 wr2 x ((s.size : Int) - r.length) 0 wr2 q w0 _ (O736.lt 1 rfl rfl).1 O736.below (O736.get 1 rfl) (hby)) ?_
    rintro e847 w848 ⟨rfl, hb849⟩
    refine ⟨_, rfl, fun _ H851 => ?_⟩
    have O852 := O736.calls 1 rfl hb849
    clear H846 O736 hb849
    refine V H851 (op_move rfl (H851.ev rfl)) ?_
    intro _ H855; clear H851
    refine V H855 (op_extract rfl (H855.ev rfl) rfl) ?_
    intro _ H857; clear H855
    refine V H857 (op_extract rfl (H857.ev rfl) rfl) ?_
    intro _ H859; clear H857
    refine V H859 (op_assign rfl (H859.ev rfl)) ?_
    intro _ H861; clear H859
    refine V H861 (op_assign rfl (H861.ev rfl)) ?_
    intro _ H863; clear H861
    refine gE hK844 ?_
    refine gw_seq fun K864 hK864 => ?_
    refine gR fun K865 hK865 => ?_
    refine V H863 (op_move rfl (H863.ev rfl)) ?_
    intro _ H867; clear H863
    refine V H867 (op_nil rfl (H867.ev rfl)) ?_
    intro _ H869; clear H867
    refine V H869 (op_field (gwfld44_2 _ _) rfl (H869.ev rfl)) ?_
    intro _ H871; clear H869
    refine V H871 (op_load1 gwagg27 rfl (H871.ev rfl) (blk_at (O852.get 1 rfl) rfl)) ?_
    intro _ H873; clear H871
    refine V H873 (op_nei rfl (H873.ev rfl) (ev_c _ _)) ?_
    intro _ H875; clear H873
    refine V H875 (op_move rfl (H875.ev rfl)) ?_
    intro _ H877; clear H875
    have H878 := H877.lit (b := false) (by decide)
    clear H877
    refine V2 H878 (want_yes H878 rfl rfl rfl rfl) (op_move rfl (H878.ev rfl)) ?_
    intro _ H880; clear H878
    refine V2 H880 (want_yes H880 rfl rfl rfl rfl) (op_eqi rfl (H880.ev rfl) (ev_c _ _)) ?_
    intro _ H882; clear H880
    refine V2 H882 (want_yes H882 rfl rfl rfl rfl) (op_move rfl (H882.ev rfl)) ?_
    intro _ H884; clear H882
    refine gw_evG H884 rfl rfl rfl rfl (on_t _) rfl (by decide) (fun h_ => (op_move rfl (H884.ev rfl))) ?_
    intro _ H886; clear H884
    refine gw_evG H886 rfl rfl rfl rfl (on_t _) rfl (by decide) (fun h_ => (op_not rfl (ev_gv (H886.ev rfl) h_))) ?_
    intro _ H888; clear H886
    refine V2 H888 (want_yes H888 rfl rfl rfl rfl) (op_pick_and rfl (H888.ev rfl) (fun hp_ => (ev_gv (H888.ev rfl) hp_)) (ev_c _ _)) ?_
    intro _ H890; clear H888
    refine V2 H890 (want_yes H890 rfl rfl rfl rfl) (op_move rfl (H890.ev rfl)) ?_
    intro _ H892; clear H890
    refine gw_evG H892 rfl rfl rfl rfl (on_t _) rfl (by decide) (fun h_ => (op_move rfl (H892.ev rfl))) ?_
    intro _ H894; clear H892
    refine gw_evG H894 rfl rfl rfl rfl (on_t _) rfl (by decide) (fun h_ => (op_not rfl (ev_gv (H894.ev rfl) h_))) ?_
    intro _ H896; clear H894
    refine V2 H896 (want_yes H896 rfl rfl rfl rfl) (op_pick_and rfl (H896.ev rfl) (fun hp_ => (ev_gv (H896.ev rfl) hp_)) (ev_c _ _)) ?_
    intro _ H898; clear H896
    refine V H898 (op_pick_f rfl (H898.ev rfl) (H898.ev rfl)) ?_
    intro _ H900; clear H898
    refine gE hK865 ?_
    refine gw_cond H900 rfl (fun hb901 => ?_) (fun hb901 => ?_)
    ·
     have H902 := H900.subst_ (d := 58) (b := true) rfl hb901
     clear H900
     (try simp only [Bool.and_eq_true, Bool.and_eq_false_iff, Bool.not_and, Bool.or_eq_true, Bool.or_eq_false_iff, Bool.not_or, Bool.not_not, Bool.not_eq_true', Bool.not_eq_false', Bool.not_eq_true, Bool.not_eq_false, decide_eq_true_eq, decide_eq_false_iff_not] at hb901)
     rw [if_pos (show x = 93 ∧ q = false ∧ fst = false from by have h_ := hb901; simpa [and_assoc] using h_)] at hR
     refine wp_exit ?_
     refine gw_thx ?_
     refine gw_out (by decide) ?_
     refine gw_thx ?_
     refine gw_thx ?_
     refine gw_in ?_
     refine gw_nx (hK727 _ _ ?_)
     refine gR fun K903 hK903 => ?_
     refine V H902 (op_move rfl (H902.ev rfl)) ?_
     intro _ H905; clear H902
     refine V H905 (op_move rfl (H905.ev rfl)) ?_
     intro _ H907; clear H905
     refine gw_call H907 (want_none rfl) rfl (by decide) (op_callL Tryz.func36 (by kernel_rfl) rfl rfl (ar_cons (H907.ev rfl) (ar_cons (H907.ev rfl) ar_nil))) (Ranges_out Aa ca rs ((!(decide ((s.size : Int) ≤ i0))) && (decide ((bt s i0) = 33))) _ (Kd.R_reads' (O852.get 0 rfl)).2.2 (row_cap (O852.get 0 rfl)) (hbs) (by omega)) ?_
     rintro e911 w912 ⟨A908, c909, S910, rfl, hb913⟩
     refine ⟨_, rfl, fun _ H915 => ?_⟩
     have O916 := O852.fresh hb913
     have hbel917 := O852.below
     clear H907 O852 hb913
     have O918 := O916.lowrow 0 rfl (base' := w0.heap.size) (Below.size hbel917)
     refine V H915 (op_build (cells := #[J 1, .slice A908 ((canonP fun c_ => inR rs c_ != ((!(decide ((s.size : Int) ≤ i0))) && (decide ((bt s i0) = 33)))).length) c909, .slice none 0 0]) rfl (pt_cons (ev_c _ _) (pt_cons (H915.ev rfl) pt_nil)) (by kernel_rfl)) ?_
     intro _ H920; clear H915
     refine gw_setn 3 H920 O918 rfl (want_none rfl) rfl (op_storen gwsiz26 rfl (H920.ev rfl) (H920.ev rfl) (O918.get 3 rfl) rfl (by simp) (by simp [Value.oneCell'])) ?_
     intro _ w923 H922 O924; clear H920 O918
     refine gE hK903 ?_
     refine wp_ret ?_
     refine gw_rets1 H922 rfl (rv_celln H922 rfl gwagg26 gwsiz26 (O924.get 3 rfl) rfl) ?_
     have O925 := O924.row_view 0 rfl
     clear O924
     have O926 : Own w0 w923 [Chunk.view k55 S910 A908 ((canonP fun c_ => inR rs c_ != ((!(decide ((s.size : Int) ≤ i0))) && (decide ((bt s i0) = 33)))).length) c909 (canonP fun c_ => inR rs c_ != ((!(decide ((s.size : Int) ≤ i0))) && (decide ((bt s i0) = 33)))), Chunk.row k55 55 w0.heap.size Sa (.slice Aa rs.length ca) rs, Bk gr [.string s, J ((s.size : Int) - r.length), J 0, J wr2] 44, Bk g2 [J 1, .slice A908 ((canonP fun c_ => inR rs c_ != ((!(decide ((s.size : Int) ≤ i0))) && (decide ((bt s i0) = 33)))).length) c909, .slice none 0 0] 26, R] := O925
     clear O925
     exact ⟨_, _, _, _, _, _, _, rfl, O926.sel [4, 2, 0] (by decide), cls_ok hi (by rw [← hRES]; exact hR.symm) (head_bang s i0 hi) rfl rfl hw0⟩
    ·
     have H927 := H900.subst_ (d := 58) (b := false) rfl hb901
     clear H900
     (try simp only [Bool.and_eq_true, Bool.and_eq_false_iff, Bool.not_and, Bool.or_eq_true, Bool.or_eq_false_iff, Bool.not_or, Bool.not_not, Bool.not_eq_true', Bool.not_eq_false', Bool.not_eq_true, Bool.not_eq_false, decide_eq_true_eq, decide_eq_false_iff_not] at hb901)
     have hnb : ¬ (x = 93 ∧ q = false ∧ fst = false) := by have h_ := hb901; rintro ⟨h1_, h2_, h3_⟩; simp [h1_, h2_, h3_] at h_
     refine wp_skip ?_
     refine gw_nx (hK864 _ _ ?_)
     refine gR fun K928 hK928 => ?_
     refine V H927 (op_move rfl (H927.ev rfl)) ?_
     intro _ H930; clear H927
     refine V H930 (op_assign rfl (H930.ev rfl)) ?_
     intro _ H932; clear H930
     refine gE hK928 ?_
     refine gw_seq fun K933 hK933 => ?_
     refine gw_seq fun K934 hK934 => ?_
     refine gw_drawB O852 (by kernel_rfl) (by kernel_rfl) fun w935 O936 => ?_
     clear O852
     refine gq_ev H932 (want_none rfl) rfl (by decide) (fun wq hq => have HO := O936.after hq; (op_move rfl (H932.ev rfl))) ?_
     intro _ H938; clear H932
     refine gq_ev H938 (want_none rfl) rfl (by decide) (fun wq hq => have HO := O936.after hq; (op_nil rfl (H938.ev rfl))) ?_
     intro _ H940; clear H938
     refine gq_ev H940 (want_none rfl) rfl (by decide) (fun wq hq => have HO := O936.after hq; (op_field (gwfld44_0 _ _) rfl (H940.ev rfl))) ?_
     intro _ H942; clear H940
     refine gq_ev H942 (want_none rfl) rfl (by decide) (fun wq hq => have HO := O936.after hq; (op_load1 gwagg9 rfl (H942.ev rfl) (blk_at (HO.get 1 rfl) rfl))) ?_
     intro _ H944; clear H942
     refine gq_ev H944 (want_none rfl) rfl (by decide) (fun wq hq => have HO := O936.after hq; (op_move rfl (H944.ev rfl))) ?_
     intro _ H946; clear H944
     refine gq_ev H946 (want_none rfl) rfl (by decide) (fun wq hq => have HO := O936.after hq; (op_nil rfl (H946.ev rfl))) ?_
     intro _ H948; clear H946
     refine gq_ev H948 (want_none rfl) rfl (by decide) (fun wq hq => have HO := O936.after hq; (op_field (gwfld44_1 _ _) rfl (H948.ev rfl))) ?_
     intro _ H950; clear H948
     refine gq_ev H950 (want_none rfl) rfl (by decide) (fun wq hq => have HO := O936.after hq; (op_load1 gwagg3 rfl (H950.ev rfl) (blk_at (HO.get 1 rfl) rfl))) ?_
     intro _ H952; clear H950
     refine gq_ev H952 (want_none rfl) rfl (by decide) (fun wq hq => have HO := O936.after hq; (op_scut Tryz.underlying9 rfl (H952.ev rfl) (some_ev (H952.ev rfl)) rfl (sb_lo ⟨by omega, by omega⟩))) ?_
     intro _ H954; clear H952
     refine gq_call H954 (want_none rfl) rfl (by decide) (fun wq hq => have HO := O936.after hq; (op_callL Tryz.func34 (by kernel_rfl) rfl rfl (ar_cons (H954.ev rfl) (ar_cons (ev_c _ _) ar_nil)))) (fun wq hq => have HO := O936.after hq; (hasp_calls s (⟨#[45]⟩ : ByteArray) ((s.size : Int) - r.length) _ (by omega)).mono fun e w' h => ⟨h.1, below_then hq h.2⟩) ?_
     intro _ H956; clear H954
     refine gq_ev H956 (want_none rfl) rfl (by decide) (fun wq hq => have HO := O936.after hq; (op_move rfl (H956.ev rfl))) ?_
     intro _ H958; clear H956
     refine gq_evG H958 rfl rfl rfl rfl (on_t _) rfl (by decide) (fun h_ wq hq => have HO := O936.after hq; (op_move rfl (H958.ev rfl))) ?_
     intro _ H960; clear H958
     refine gq_evG H960 rfl rfl rfl rfl (on_t _) rfl (by decide) (fun h_ wq hq => have HO := O936.after hq; (op_nil rfl (ev_gv (H960.ev rfl) h_))) ?_
     intro _ H962; clear H960
     refine gq_evG H962 rfl rfl rfl rfl (on_t _) rfl (by decide) (fun h_ wq hq => have HO := O936.after hq; (op_field (gwfld44_0 _ _) rfl (ev_gv (H962.ev rfl) h_))) ?_
     intro _ H964; clear H962
     refine gq_evG H964 rfl rfl rfl rfl (on_t _) rfl (by decide) (fun h_ wq hq => have HO := O936.after hq; (op_load1 gwagg9 rfl (ev_gv (H964.ev rfl) h_) (blk_at (HO.get 1 rfl) rfl))) ?_
     intro _ H966; clear H964
     refine gq_evG H966 rfl rfl rfl rfl (on_t _) rfl (by decide) (fun h_ wq hq => have HO := O936.after hq; (op_move rfl (H966.ev rfl))) ?_
     intro _ H968; clear H966
     refine gq_evG H968 rfl rfl rfl rfl (on_t _) rfl (by decide) (fun h_ wq hq => have HO := O936.after hq; (op_nil rfl (ev_gv (H968.ev rfl) h_))) ?_
     intro _ H970; clear H968
     refine gq_evG H970 rfl rfl rfl rfl (on_t _) rfl (by decide) (fun h_ wq hq => have HO := O936.after hq; (op_field (gwfld44_1 _ _) rfl (ev_gv (H970.ev rfl) h_))) ?_
     intro _ H972; clear H970
     refine gq_evG H972 rfl rfl rfl rfl (on_t _) rfl (by decide) (fun h_ wq hq => have HO := O936.after hq; (op_load1 gwagg3 rfl (ev_gv (H972.ev rfl) h_) (blk_at (HO.get 1 rfl) rfl))) ?_
     intro _ H974; clear H972
     refine gq_evG H974 rfl rfl rfl rfl (on_t _) rfl (by decide) (fun h_ wq hq => have HO := O936.after hq; (op_scut Tryz.underlying9 rfl (ev_gv (H974.ev rfl) h_) (some_ev (ev_gv (H974.ev rfl) h_)) rfl (sb_lo ⟨by (try simp only [Bool.and_eq_true, Bool.or_eq_true, Bool.and_eq_false_iff, Bool.or_eq_false_iff, Bool.not_and, Bool.not_or, Bool.not_not, decide_eq_true_eq, decide_eq_false_iff_not, Bool.not_eq_true', Bool.not_eq_false', Bool.not_eq_true, Bool.not_eq_false, ne_eq, Decidable.not_not, Int.not_lt, Int.not_le, not_true_eq_false, not_false_eq_true, bne_iff_ne, beq_iff_eq, bne_eq_false_iff_eq, beq_eq_false_iff_ne] at h_); omega, by (try simp only [Bool.and_eq_true, Bool.or_eq_true, Bool.and_eq_false_iff, Bool.or_eq_false_iff, Bool.not_and, Bool.not_or, Bool.not_not, decide_eq_true_eq, decide_eq_false_iff_not, Bool.not_eq_true', Bool.not_eq_false', Bool.not_eq_true, Bool.not_eq_false, ne_eq, Decidable.not_not, Int.not_lt, Int.not_le, not_true_eq_false, not_false_eq_true, bne_iff_ne, beq_iff_eq, bne_eq_false_iff_eq, beq_eq_false_iff_ne] at h_); omega⟩))) ?_
     intro _ H976; clear H974
     refine gq_callG H976 rfl rfl rfl rfl (on_t _) rfl (by decide) (fun h_ wq hq => have HO := O936.after hq; (op_callL Tryz.func34 (by kernel_rfl) rfl rfl (ar_cons (ev_gv (H976.ev rfl) h_) (ar_cons (ev_c _ _) ar_nil)))) (fun h_ wq hq => have HO := O936.after hq; (hasp_calls s (⟨#[45, 93]⟩ : ByteArray) ((s.size : Int) - r.length) _ (by (try simp only [Bool.and_eq_true, Bool.or_eq_true, Bool.and_eq_false_iff, Bool.or_eq_false_iff, Bool.not_and, Bool.not_or, Bool.not_not, decide_eq_true_eq, decide_eq_false_iff_not, Bool.not_eq_true', Bool.not_eq_false', Bool.not_eq_true, Bool.not_eq_false, ne_eq, Decidable.not_not, Int.not_lt, Int.not_le, not_true_eq_false, not_false_eq_true, bne_iff_ne, beq_iff_eq, bne_eq_false_iff_eq, beq_eq_false_iff_ne] at h_); omega)).mono fun e w' h => ⟨h.1, below_then hq h.2⟩) ?_
     intro _ H978; clear H976
     refine gq_evG H978 rfl rfl rfl rfl (on_t _) rfl (by decide) (fun h_ wq hq => have HO := O936.after hq; (op_not rfl (ev_gv (H978.ev rfl) h_))) ?_
     intro _ H980; clear H978
     refine gq_ev H980 (want_none rfl) rfl (by decide) (fun wq hq => have HO := O936.after hq; (op_pick_and rfl (H980.ev rfl) (fun hp_ => (ev_gv (H980.ev rfl) hp_)) (ev_c _ _))) ?_
     intro _ H982; clear H980
     refine gq_ev H982 (want_none rfl) rfl (by decide) (fun wq hq => have HO := O936.after hq; (op_move rfl (H982.ev rfl))) ?_
     intro _ H984; clear H982
     refine gq_evG H984 rfl rfl rfl rfl (on_t _) rfl (by decide) (fun h_ wq hq => have HO := O936.after hq; (op_move rfl (H984.ev rfl))) ?_
     intro _ H986; clear H984
     refine gq_evG H986 rfl rfl rfl rfl (on_t _) rfl (by decide) (fun h_ wq hq => have HO := O936.after hq; (op_nil rfl (ev_gv (H986.ev rfl) h_))) ?_
     intro _ H988; clear H986
     refine gq_evG H988 rfl rfl rfl rfl (on_t _) rfl (by decide) (fun h_ wq hq => have HO := O936.after hq; (op_field (gwfld44_1 _ _) rfl (ev_gv (H988.ev rfl) h_))) ?_
     intro _ H990; clear H988
     refine gq_evG H990 rfl rfl rfl rfl (on_t _) rfl (by decide) (fun h_ wq hq => have HO := O936.after hq; (op_load1 gwagg3 rfl (ev_gv (H990.ev rfl) h_) (blk_at (HO.get 1 rfl) rfl))) ?_
     intro _ H992; clear H990
     refine gq_evG H992 rfl rfl rfl rfl (on_t _) rfl (by decide) (fun h_ wq hq => have HO := O936.after hq; (op_add rfl (ev_gv (H992.ev rfl) h_) (ev_c _ _) (by (try simp only [Bool.and_eq_true, Bool.or_eq_true, Bool.and_eq_false_iff, Bool.or_eq_false_iff, Bool.not_and, Bool.not_or, Bool.not_not, decide_eq_true_eq, decide_eq_false_iff_not, Bool.not_eq_true', Bool.not_eq_false', Bool.not_eq_true, Bool.not_eq_false, ne_eq, Decidable.not_not, Int.not_lt, Int.not_le, not_true_eq_false, not_false_eq_true, bne_iff_ne, beq_iff_eq, bne_eq_false_iff_eq, beq_eq_false_iff_ne] at h_); omega))) ?_
     intro _ H994; clear H992
     refine gq_evG H994 rfl rfl rfl rfl (on_t _) rfl (by decide) (fun h_ wq hq => have HO := O936.after hq; (op_move rfl (H994.ev rfl))) ?_
     intro _ H996; clear H994
     refine gq_evG H996 rfl rfl rfl rfl (on_t _) rfl (by decide) (fun h_ wq hq => have HO := O936.after hq; (op_nil rfl (ev_gv (H996.ev rfl) h_))) ?_
     intro _ H998; clear H996
     refine gq_evG H998 rfl rfl rfl rfl (on_t _) rfl (by decide) (fun h_ wq hq => have HO := O936.after hq; (op_field (gwfld44_0 _ _) rfl (ev_gv (H998.ev rfl) h_))) ?_
     intro _ H1000; clear H998
     refine gq_evG H1000 rfl rfl rfl rfl (on_t _) rfl (by decide) (fun h_ wq hq => have HO := O936.after hq; (op_load1 gwagg9 rfl (ev_gv (H1000.ev rfl) h_) (blk_at (HO.get 1 rfl) rfl))) ?_
     intro _ H1002; clear H1000
     refine gq_evG H1002 rfl rfl rfl rfl (on_t _) rfl (by decide) (fun h_ wq hq => have HO := O936.after hq; (op_lens Tryz.underlying9 rfl (ev_gv (H1002.ev rfl) h_))) ?_
     intro _ H1004; clear H1002
     refine gq_evG H1004 rfl rfl rfl rfl (on_t _) rfl (by decide) (fun h_ wq hq => have HO := O936.after hq; (op_lss rfl (ev_gv (H1004.ev rfl) h_) (ev_gv (H1004.ev rfl) h_))) ?_
     intro _ H1006; clear H1004
     refine gq_ev H1006 (want_none rfl) rfl (by decide) (fun wq hq => have HO := O936.after hq; (op_pick_and rfl (H1006.ev rfl) (fun hp_ => (ev_gv (H1006.ev rfl) hp_)) (ev_c _ _))) ?_
     intro _ H1008; clear H1006
     have H1009 := H1008.conv (v' := .bool (hyph r)) (congrArg Value.bool (hyph_eq s ((s.size : Int) - r.length) r (by omega) hrr))
     clear H1008
     refine wpQuiet_nil ?_
     intro w1010 hq
     have O1011 := O936.after hq
     clear O936 hq
     refine gw_nx (hK934 _ _ ?_)
     refine gw_cond H1009 rfl (fun hb1012 => ?_) (fun hb1012 => ?_)
     ·
      have H1013 := H1009.subst_ (d := 95) (b := true) rfl hb1012
      clear H1009
      (try simp only [Bool.not_eq_true] at hb1012)
      have hhy : hyph r = true := by assumption
      have hltr : ((s.size : Int) - r.length) < s.size := by refine Int.not_le.1 fun h_ => ?_; have h2_ : r = [] := List.length_eq_zero_iff.1 (by omega); rw [h2_] at hhy; cases hhy
      have htl : rest_ s (((s.size : Int) - r.length) + 1) = r.tail := by have h_ := rest_cons s ((s.size : Int) - r.length) (by omega); rw [hrr] at h_; exact (congrArg List.tail h_).symm
      rcases hb2 : byteS (rest_ s (((s.size : Int) - r.length) + 1)) with _ | ⟨hi_, q2, r2⟩
      ·
       obtain ⟨q1, hq1⟩ := byte_none s (((s.size : Int) - r.length) + 1) wr2 (by omega) (by omega) hb2
       rw [if_neg hnb, if_pos hhy, show byteS r.tail = none by rw [← htl]; exact hb2] at hR; simp only at hR
       refine gR fun K1014 hK1014 => ?_
       refine V H1013 (op_move rfl (H1013.ev rfl)) ?_
       intro _ H1016; clear H1013
       refine V H1016 (op_nil rfl (H1016.ev rfl)) ?_
       intro _ H1018; clear H1016
       refine V H1018 (op_field (gwfld44_1 _ _) rfl (H1018.ev rfl)) ?_
       intro _ H1020; clear H1018
       refine V H1020 (op_load1 gwagg3 rfl (H1020.ev rfl) (blk_at (O1011.get 1 rfl) rfl)) ?_
       intro _ H1022; clear H1020
       refine V H1022 (op_add rfl (H1022.ev rfl) (ev_c _ _) (by omega)) ?_
       intro _ H1024; clear H1022
       refine V H1024 (op_nil rfl (H1024.ev rfl)) ?_
       intro _ H1026; clear H1024
       refine V H1026 (op_field (gwfld44_1 _ _) rfl (H1026.ev rfl)) ?_
       intro _ H1028; clear H1026
       refine gw_set 1 H1028 O1011 rfl (want_none rfl) rfl (op_store1 gwsiz3 rfl (H1028.ev rfl) (H1028.ev rfl) rfl (blk_at (O1011.get 1 rfl) rfl) (blkf (O1011.get 1 rfl))) ?_
       intro _ w1031 H1030 O1032; clear H1028 O1011
       refine gE hK1014 ?_
       refine wp_region_lit ?_
       refine V H1030 (op_move rfl (H1030.ev rfl)) ?_
       intro _ H1034; clear H1030
       refine gw_call H1034 (want_none rfl) rfl (by decide) (op_callL Tryz.func17 (by kernel_rfl) rfl rfl (ar_cons (H1034.ev rfl) ar_nil)) (byte_calls gr s s (((s.size : Int) - r.length) + 1) 0 wr2 0 (s.size : Int) 31 (s.size : Int) q1 w0 _ (O1032.lt 1 rfl rfl).1 O1032.below (O1032.get 1 rfl) (hq1)) ?_
       rintro e1035 w1036 ⟨rfl, hb1037⟩
       refine ⟨_, rfl, fun _ H1039 => ?_⟩
       have O1040 := O1032.calls 1 rfl hb1037
       clear H1034 O1032 hb1037
       refine V H1039 (op_move rfl (H1039.ev rfl)) ?_
       intro _ H1043; clear H1039
       refine V H1043 (op_extract rfl (H1043.ev rfl) rfl) ?_
       intro _ H1045; clear H1043
       refine V H1045 (op_extract rfl (H1045.ev rfl) rfl) ?_
       intro _ H1047; clear H1045
       refine V H1047 (op_assign rfl (H1047.ev rfl)) ?_
       intro _ H1049; clear H1047
       refine gE hK933 ?_
       refine gw_seq fun K1050 hK1050 => ?_
       refine gR fun K1051 hK1051 => ?_
       refine V H1049 (op_move rfl (H1049.ev rfl)) ?_
       intro _ H1053; clear H1049
       refine V H1053 (op_nil rfl (H1053.ev rfl)) ?_
       intro _ H1055; clear H1053
       refine V H1055 (op_field (gwfld44_2 _ _) rfl (H1055.ev rfl)) ?_
       intro _ H1057; clear H1055
       refine V H1057 (op_load1 gwagg27 rfl (H1057.ev rfl) (blk_at (O1040.get 1 rfl) rfl)) ?_
       intro _ H1059; clear H1057
       refine V H1059 (op_eqi rfl (H1059.ev rfl) (ev_c _ _)) ?_
       intro _ H1061; clear H1059
       have H1062 := H1061.lit (b := false) (by decide)
       clear H1061
       refine V H1062 (op_move rfl (H1062.ev rfl)) ?_
       intro _ H1064; clear H1062
       refine Vo H1064 (wn H1064 rfl rfl rfl rfl) ?_
       intro _ H1066; clear H1064
       refine Vo H1066 (wn H1066 rfl rfl rfl rfl) ?_
       intro _ H1068; clear H1066
       refine Vo H1068 (wn H1068 rfl rfl rfl rfl) ?_
       intro _ H1070; clear H1068
       refine V H1070 (op_pick_f rfl (H1070.ev rfl) (ev_c _ _)) ?_
       intro _ H1072; clear H1070
       refine gE hK1051 ?_
       refine gw_cond H1072 rfl (fun hb1073 => ?_) (fun hb1073 => ?_)
       skip
       ·
        cases hb1073
       refine wp_skip ?_
       refine gw_nx (hK1050 _ _ ?_)
       refine wp_region_lit ?_
       refine V H1072 (op_move rfl (H1072.ev rfl)) ?_
       intro _ H1075; clear H1072
       refine V H1075 (op_move rfl (H1075.ev rfl)) ?_
       intro _ H1077; clear H1075
       refine V H1077 (op_move rfl (H1077.ev rfl)) ?_
       intro _ H1079; clear H1077
       refine V H1079 (op_build (cells := #[.int .u8 x, .int .u8 0]) rfl (pt_cons (H1079.ev rfl) (pt_cons (H1079.ev rfl) pt_nil)) (by kernel_rfl)) ?_
       intro _ H1081; clear H1079
       refine gw_news (O := .cells #[.int .u8 x, .int .u8 0] 55 (0, 0)) (n := 1) H1081 O1040 (want_none rfl) rfl (by decide) (op_bslice (by kernel_rfl) rfl (pt_cons (H1081.ev rfl) pt_nil)) ?_
       intro g1082 _ w1084 H1085 O1086; clear H1081 O1040
       have O1087 : Own w0 w1084 [Bk g1082 [.int .u8 x, .int .u8 0] 55, Chunk.row k55 55 w0.heap.size Sa (.slice Aa rs.length ca) rs, Bk gr [.string s, J (s.size : Int), J 31, J (s.size : Int)] 44, Bk g2 [J 0, .slice none 0 0, .slice none 0 0] 26, R] := O1086
       clear O1086
       have O1088 : Own w0 _ [Chunk.row k55 55 w0.heap.size Sa (.slice Aa rs.length ca) rs, Chunk.void, Bk g1082 [.int .u8 x, .int .u8 0] 55, Bk gr [.string s, J (s.size : Int), J 31, J (s.size : Int)] 44, Bk g2 [J 0, .slice none 0 0, .slice none 0 0] 26, R] := O1087.void.sel [2, 0, 1, 3, 4, 5] (by decide)
       refine gw_append1 k55 0 (p := (⟨x, 0⟩ : S55)) (cs := [.int .u8 x, .int .u8 0]) H1085 O1088 (want_none rfl) rfl (by decide) rfl Tryz.underlying23 gwinfo55 rfl (by decide) (by decide) rfl (H1085.ev rfl) (H1085.ev rfl) (fun w_ h_ => k55_mkM w_ _ _ (⟨x, 0⟩ : S55) ) O1088.below.size (by omega) ?_
       intro A1089 c1090 S1091 _ w1093 H1094 O1095; clear H1085 O1087 O1088
       have O1096 : Own w0 w1093 [Chunk.row k55 55 w0.heap.size S1091 (.slice A1089 ((rs ++ [(⟨x, 0⟩ : S55)]).length) c1090) (rs ++ [(⟨x, 0⟩ : S55)]), Bk g1082 [.int .u8 x, .int .u8 0] 55, Bk gr [.string s, J (s.size : Int), J 31, J (s.size : Int)] 44, Bk g2 [J 0, .slice none 0 0, .slice none 0 0] 26, R] := O1095
       clear O1095
       refine V H1094 (op_assign rfl (H1094.ev rfl)) ?_
       intro _ H1098; clear H1094
       refine wpList_nil ?_
       refine gw_blk ?_
       refine gw_nx (hK832 _ _ ?_)
       refine wp_region_lit ?_
       refine V H1098 (op_assign rfl (ev_c _ _)) ?_
       intro _ H1100; clear H1098
       refine wpList_nil ?_
       refine gw_nx ⟨_, ?_, (s.size : Int), 31, (s.size : Int), false, (rs ++ [(⟨x, 0⟩ : S55)]), A1089, _, _, _, (H1100.pick (t := 5) rfl (H1100.pick (t := 4) rfl (H1100.pick (t := 0) rfl (H1100.pick (t := 2) rfl (H1100.pick (t := 3) rfl H1100.nil))))), O1096.sel [0, 2, 3, 4] (by decide), ?_, ?_, ?_, ?_, ?_, rfl⟩
       ·
        rw [hm737]; omega
       ·
        omega
       ·
        intro r_ hr_; rcases List.mem_append.1 hr_ with h_ | h_; (exact hbs r_ h_); (rw [List.mem_singleton.1 h_]; dsimp only; omega)
       ·
        rw [List.length_append, List.length_singleton]; omega
       ·
        exact .inr ⟨by decide, rfl, 0, hR, by omega⟩
       ·
        rfl
      ·
       obtain ⟨hby2, hrr2, hp3, hp4⟩ := byte_ok s (((s.size : Int) - r.length) + 1) wr2 hi_ q2 r2 (by omega) (by omega) hb2
       have hx2 := byteS_range hb2
       have hr2l := byteS_lt hb2
       rw [if_neg hnb, if_pos hhy, show byteS r.tail = some (hi_, q2, r2) by rw [← htl]; exact hb2] at hR; simp only at hR
       refine gR fun K1101 hK1101 => ?_
       refine V H1013 (op_move rfl (H1013.ev rfl)) ?_
       intro _ H1103; clear H1013
       refine V H1103 (op_nil rfl (H1103.ev rfl)) ?_
       intro _ H1105; clear H1103
       refine V H1105 (op_field (gwfld44_1 _ _) rfl (H1105.ev rfl)) ?_
       intro _ H1107; clear H1105
       refine V H1107 (op_load1 gwagg3 rfl (H1107.ev rfl) (blk_at (O1011.get 1 rfl) rfl)) ?_
       intro _ H1109; clear H1107
       refine V H1109 (op_add rfl (H1109.ev rfl) (ev_c _ _) (by omega)) ?_
       intro _ H1111; clear H1109
       refine V H1111 (op_nil rfl (H1111.ev rfl)) ?_
       intro _ H1113; clear H1111
       refine V H1113 (op_field (gwfld44_1 _ _) rfl (H1113.ev rfl)) ?_
       intro _ H1115; clear H1113
       refine gw_set 1 H1115 O1011 rfl (want_none rfl) rfl (op_store1 gwsiz3 rfl (H1115.ev rfl) (H1115.ev rfl) rfl (blk_at (O1011.get 1 rfl) rfl) (blkf (O1011.get 1 rfl))) ?_
       intro _ w1118 H1117 O1119; clear H1115 O1011
       refine gE hK1101 ?_
       refine wp_region_lit ?_
       refine V H1117 (op_move rfl (H1117.ev rfl)) ?_
       intro _ H1121; clear H1117
       refine gw_call H1121 (want_none rfl) rfl (by decide) (op_callL Tryz.func17 (by kernel_rfl) rfl rfl (ar_cons (H1121.ev rfl) ar_nil)) (byte_calls gr s s (((s.size : Int) - r.length) + 1) 0 wr2 hi_ ((s.size : Int) - r2.length) 0 wr2 q2 w0 _ (O1119.lt 1 rfl rfl).1 O1119.below (O1119.get 1 rfl) (hby2)) ?_
       rintro e1122 w1123 ⟨rfl, hb1124⟩
       refine ⟨_, rfl, fun _ H1126 => ?_⟩
       have O1127 := O1119.calls 1 rfl hb1124
       clear H1121 O1119 hb1124
       refine V H1126 (op_move rfl (H1126.ev rfl)) ?_
       intro _ H1130; clear H1126
       refine V H1130 (op_extract rfl (H1130.ev rfl) rfl) ?_
       intro _ H1132; clear H1130
       refine V H1132 (op_extract rfl (H1132.ev rfl) rfl) ?_
       intro _ H1134; clear H1132
       refine V H1134 (op_assign rfl (H1134.ev rfl)) ?_
       intro _ H1136; clear H1134
       refine gE hK933 ?_
       refine gw_seq fun K1137 hK1137 => ?_
       refine gR fun K1138 hK1138 => ?_
       refine V H1136 (op_move rfl (H1136.ev rfl)) ?_
       intro _ H1140; clear H1136
       refine V H1140 (op_nil rfl (H1140.ev rfl)) ?_
       intro _ H1142; clear H1140
       refine V H1142 (op_field (gwfld44_2 _ _) rfl (H1142.ev rfl)) ?_
       intro _ H1144; clear H1142
       refine V H1144 (op_load1 gwagg27 rfl (H1144.ev rfl) (blk_at (O1127.get 1 rfl) rfl)) ?_
       intro _ H1146; clear H1144
       refine V H1146 (op_eqi rfl (H1146.ev rfl) (ev_c _ _)) ?_
       intro _ H1148; clear H1146
       have H1149 := H1148.lit (b := true) (by decide)
       clear H1148
       refine V H1149 (op_move rfl (H1149.ev rfl)) ?_
       intro _ H1151; clear H1149
       refine V2 H1151 (want_yes H1151 rfl rfl rfl rfl) (op_move rfl (H1151.ev rfl)) ?_
       intro _ H1153; clear H1151
       refine V2 H1153 (want_yes H1153 rfl rfl rfl rfl) (op_move rfl (H1153.ev rfl)) ?_
       intro _ H1155; clear H1153
       refine V2 H1155 (want_yes H1155 rfl rfl rfl rfl) (op_lss rfl (H1155.ev rfl) (H1155.ev rfl)) ?_
       intro _ H1157; clear H1155
       refine V H1157 (op_pick_t rfl (H1157.ev rfl) (H1157.ev rfl)) ?_
       intro _ H1159; clear H1157
       refine gE hK1138 ?_
       refine gw_cond H1159 rfl (fun hb1160 => ?_) (fun hb1160 => ?_)
       ·
        have H1161 := H1159.subst_ (d := 117) (b := true) rfl hb1160
        clear H1159
        (try simp only [decide_eq_true_eq] at hb1160)
        rw [if_pos (by assumption)] at hR
        refine gR fun K1162 hK1162 => ?_
        refine V H1161 (op_move rfl (H1161.ev rfl)) ?_
        intro _ H1164; clear H1161
        refine V H1164 (op_move rfl (H1164.ev rfl)) ?_
        intro _ H1166; clear H1164
        refine gw_call H1166 (want_none rfl) rfl (by decide) (op_callL Tryz.func35 (by kernel_rfl) rfl rfl (ar_cons (H1166.ev rfl) (ar_cons (ev_c _ _) (ar_cons (H1166.ev rfl) ar_nil)))) (fail_calls gr s ((s.size : Int) - r2.length) 0 wr2 32 p w0 _ (O1127.lt 1 rfl rfl).1 O1127.below (O1127.get 1 rfl) rfl) ?_
        rintro e1167 w1168 ⟨rfl, hb1169⟩
        refine ⟨_, rfl, fun _ H1171 => ?_⟩
        have O1172 := O1127.calls 1 rfl hb1169
        clear H1166 O1127 hb1169
        have O1174 : Own w0 w1168 [Chunk.row k55 55 w0.heap.size Sa (.slice Aa rs.length ca) rs, Bk gr [.string s, J (s.size : Int), J 32, J p] 44, Bk g2 [J 0, .slice none 0 0, .slice none 0 0] 26, R] := O1172
        clear O1172
        refine gE hK1162 ?_
        refine wp_exit ?_
        refine gw_thx ?_
        refine gw_out (by decide) ?_
        refine gw_thx ?_
        refine gw_thx ?_
        refine gw_in ?_
        refine gw_nx (hK727 _ _ ?_)
        refine gR fun K1175 hK1175 => ?_
        refine V H1171 (op_move rfl (H1171.ev rfl)) ?_
        intro _ H1177; clear H1171
        refine V H1177 (op_move rfl (H1177.ev rfl)) ?_
        intro _ H1179; clear H1177
        refine gw_call H1179 (want_none rfl) rfl (by decide) (op_callL Tryz.func36 (by kernel_rfl) rfl rfl (ar_cons (H1179.ev rfl) (ar_cons (H1179.ev rfl) ar_nil))) (Ranges_out Aa ca rs ((!(decide ((s.size : Int) ≤ i0))) && (decide ((bt s i0) = 33))) _ (Kd.R_reads' (O1174.get 0 rfl)).2.2 (row_cap (O1174.get 0 rfl)) (hbs) (by omega)) ?_
        rintro e1183 w1184 ⟨A1180, c1181, S1182, rfl, hb1185⟩
        refine ⟨_, rfl, fun _ H1187 => ?_⟩
        have O1188 := O1174.fresh hb1185
        have hbel1189 := O1174.below
        clear H1179 O1174 hb1185
        have O1190 := O1188.lowrow 0 rfl (base' := w0.heap.size) (Below.size hbel1189)
        refine V H1187 (op_build (cells := #[J 1, .slice A1180 ((canonP fun c_ => inR rs c_ != ((!(decide ((s.size : Int) ≤ i0))) && (decide ((bt s i0) = 33)))).length) c1181, .slice none 0 0]) rfl (pt_cons (ev_c _ _) (pt_cons (H1187.ev rfl) pt_nil)) (by kernel_rfl)) ?_
        intro _ H1192; clear H1187
        refine gw_setn 3 H1192 O1190 rfl (want_none rfl) rfl (op_storen gwsiz26 rfl (H1192.ev rfl) (H1192.ev rfl) (O1190.get 3 rfl) rfl (by simp) (by simp [Value.oneCell'])) ?_
        intro _ w1195 H1194 O1196; clear H1192 O1190
        refine gE hK1175 ?_
        refine wp_ret ?_
        refine gw_rets1 H1194 rfl (rv_celln H1194 rfl gwagg26 gwsiz26 (O1196.get 3 rfl) rfl) ?_
        have O1197 := O1196.row_view 0 rfl
        clear O1196
        have O1198 : Own w0 w1195 [Chunk.view k55 S1182 A1180 ((canonP fun c_ => inR rs c_ != ((!(decide ((s.size : Int) ≤ i0))) && (decide ((bt s i0) = 33)))).length) c1181 (canonP fun c_ => inR rs c_ != ((!(decide ((s.size : Int) ≤ i0))) && (decide ((bt s i0) = 33)))), Chunk.row k55 55 w0.heap.size Sa (.slice Aa rs.length ca) rs, Bk gr [.string s, J (s.size : Int), J 32, J p] 44, Bk g2 [J 1, .slice A1180 ((canonP fun c_ => inR rs c_ != ((!(decide ((s.size : Int) ≤ i0))) && (decide ((bt s i0) = 33)))).length) c1181, .slice none 0 0] 26, R] := O1197
        clear O1197
        exact ⟨_, _, _, _, _, _, _, rfl, O1198.sel [4, 2, 0] (by decide), cls_bad (e := 32) (m := (rest_ s p).length) (by rw [← hRES]; exact hR.symm) rfl rfl (by decide) (by omega)⟩
       ·
        have H1199 := H1159.subst_ (d := 117) (b := false) rfl hb1160
        clear H1159
        (try simp only [decide_eq_false_iff_not, Int.not_lt] at hb1160)
        rw [if_neg (by omega)] at hR
        refine wp_skip ?_
        refine gw_nx (hK1137 _ _ ?_)
        refine wp_region_lit ?_
        refine V H1199 (op_move rfl (H1199.ev rfl)) ?_
        intro _ H1201; clear H1199
        refine V H1201 (op_move rfl (H1201.ev rfl)) ?_
        intro _ H1203; clear H1201
        refine V H1203 (op_move rfl (H1203.ev rfl)) ?_
        intro _ H1205; clear H1203
        refine V H1205 (op_build (cells := #[.int .u8 x, .int .u8 hi_]) rfl (pt_cons (H1205.ev rfl) (pt_cons (H1205.ev rfl) pt_nil)) (by kernel_rfl)) ?_
        intro _ H1207; clear H1205
        refine gw_news (O := .cells #[.int .u8 x, .int .u8 hi_] 55 (0, 0)) (n := 1) H1207 O1127 (want_none rfl) rfl (by decide) (op_bslice (by kernel_rfl) rfl (pt_cons (H1207.ev rfl) pt_nil)) ?_
        intro g1208 _ w1210 H1211 O1212; clear H1207 O1127
        have O1213 : Own w0 w1210 [Bk g1208 [.int .u8 x, .int .u8 hi_] 55, Chunk.row k55 55 w0.heap.size Sa (.slice Aa rs.length ca) rs, Bk gr [.string s, J ((s.size : Int) - r2.length), J 0, J wr2] 44, Bk g2 [J 0, .slice none 0 0, .slice none 0 0] 26, R] := O1212
        clear O1212
        have O1214 : Own w0 _ [Chunk.row k55 55 w0.heap.size Sa (.slice Aa rs.length ca) rs, Chunk.void, Bk g1208 [.int .u8 x, .int .u8 hi_] 55, Bk gr [.string s, J ((s.size : Int) - r2.length), J 0, J wr2] 44, Bk g2 [J 0, .slice none 0 0, .slice none 0 0] 26, R] := O1213.void.sel [2, 0, 1, 3, 4, 5] (by decide)
        refine gw_append1 k55 0 (p := (⟨x, hi_⟩ : S55)) (cs := [.int .u8 x, .int .u8 hi_]) H1211 O1214 (want_none rfl) rfl (by decide) rfl Tryz.underlying23 gwinfo55 rfl (by decide) (by decide) rfl (H1211.ev rfl) (H1211.ev rfl) (fun w_ h_ => k55_mkM w_ _ _ (⟨x, hi_⟩ : S55) ) O1214.below.size (by omega) ?_
        intro A1215 c1216 S1217 _ w1219 H1220 O1221; clear H1211 O1213 O1214
        have O1222 : Own w0 w1219 [Chunk.row k55 55 w0.heap.size S1217 (.slice A1215 ((rs ++ [(⟨x, hi_⟩ : S55)]).length) c1216) (rs ++ [(⟨x, hi_⟩ : S55)]), Bk g1208 [.int .u8 x, .int .u8 hi_] 55, Bk gr [.string s, J ((s.size : Int) - r2.length), J 0, J wr2] 44, Bk g2 [J 0, .slice none 0 0, .slice none 0 0] 26, R] := O1221
        clear O1221
        refine V H1220 (op_assign rfl (H1220.ev rfl)) ?_
        intro _ H1224; clear H1220
        refine wpList_nil ?_
        refine gw_blk ?_
        refine gw_nx (hK832 _ _ ?_)
        refine wp_region_lit ?_
        refine V H1224 (op_assign rfl (ev_c _ _)) ?_
        intro _ H1226; clear H1224
        refine wpList_nil ?_
        refine gw_nx ⟨_, ?_, ((s.size : Int) - r2.length), 0, wr2, false, (rs ++ [(⟨x, hi_⟩ : S55)]), A1215, _, _, _, (H1226.pick (t := 5) rfl (H1226.pick (t := 4) rfl (H1226.pick (t := 0) rfl (H1226.pick (t := 2) rfl (H1226.pick (t := 3) rfl H1226.nil))))), O1222.sel [0, 2, 3, 4] (by decide), ?_, ?_, ?_, ?_, ?_, rfl⟩
        ·
         rw [hm737]; omega
        ·
         omega
        ·
         intro r_ hr_; rcases List.mem_append.1 hr_ with h_ | h_; (exact hbs r_ h_); (rw [List.mem_singleton.1 h_]; dsimp only; omega)
        ·
         rw [List.length_append, List.length_singleton]; omega
        ·
         exact .inl ⟨rfl, hw0, k, by (try rw [hrr2]); (try rw [hrr]); omega, by (try rw [hrr2]); (try rw [hrr]); exact hR.symm⟩
        ·
         rfl
     ·
      have H1227 := H1009.subst_ (d := 95) (b := false) rfl hb1012
      clear H1009
      (try simp only [Bool.not_eq_true] at hb1012)
      have hhy : ¬ hyph r = true := by rw [hb1012]; simp
      rw [if_neg hnb, if_neg hhy] at hR
      refine wp_skip ?_
      refine gw_nx (hK933 _ _ ?_)
      refine gw_seq fun K1228 hK1228 => ?_
      refine gR fun K1229 hK1229 => ?_
      refine V H1227 (op_move rfl (H1227.ev rfl)) ?_
      intro _ H1231; clear H1227
      refine V H1231 (op_nil rfl (H1231.ev rfl)) ?_
      intro _ H1233; clear H1231
      refine V H1233 (op_field (gwfld44_2 _ _) rfl (H1233.ev rfl)) ?_
      intro _ H1235; clear H1233
      refine V H1235 (op_load1 gwagg27 rfl (H1235.ev rfl) (blk_at (O1011.get 1 rfl) rfl)) ?_
      intro _ H1237; clear H1235
      refine V H1237 (op_eqi rfl (H1237.ev rfl) (ev_c _ _)) ?_
      intro _ H1239; clear H1237
      have H1240 := H1239.lit (b := true) (by decide)
      clear H1239
      refine V H1240 (op_move rfl (H1240.ev rfl)) ?_
      intro _ H1242; clear H1240
      refine V2 H1242 (want_yes H1242 rfl rfl rfl rfl) (op_move rfl (H1242.ev rfl)) ?_
      intro _ H1244; clear H1242
      refine V2 H1244 (want_yes H1244 rfl rfl rfl rfl) (op_move rfl (H1244.ev rfl)) ?_
      intro _ H1246; clear H1244
      refine V2 H1246 (want_yes H1246 rfl rfl rfl rfl) (op_lss rfl (H1246.ev rfl) (H1246.ev rfl)) ?_
      intro _ H1248; clear H1246
      refine V H1248 (op_pick_t rfl (H1248.ev rfl) (H1248.ev rfl)) ?_
      intro _ H1250; clear H1248
      have H1251 := H1250.lit (b := false) (by simp)
      clear H1250
      refine gE hK1229 ?_
      refine gw_cond H1251 rfl (fun hb1252 => ?_) (fun hb1252 => ?_)
      skip
      ·
       cases hb1252
      refine wp_skip ?_
      refine gw_nx (hK1228 _ _ ?_)
      refine wp_region_lit ?_
      refine V H1251 (op_move rfl (H1251.ev rfl)) ?_
      intro _ H1254; clear H1251
      refine V H1254 (op_move rfl (H1254.ev rfl)) ?_
      intro _ H1256; clear H1254
      refine V H1256 (op_move rfl (H1256.ev rfl)) ?_
      intro _ H1258; clear H1256
      refine V H1258 (op_build (cells := #[.int .u8 x, .int .u8 x]) rfl (pt_cons (H1258.ev rfl) (pt_cons (H1258.ev rfl) pt_nil)) (by kernel_rfl)) ?_
      intro _ H1260; clear H1258
      refine gw_news (O := .cells #[.int .u8 x, .int .u8 x] 55 (0, 0)) (n := 1) H1260 O1011 (want_none rfl) rfl (by decide) (op_bslice (by kernel_rfl) rfl (pt_cons (H1260.ev rfl) pt_nil)) ?_
      intro g1261 _ w1263 H1264 O1265; clear H1260 O1011
      have O1266 : Own w0 w1263 [Bk g1261 [.int .u8 x, .int .u8 x] 55, Chunk.row k55 55 w0.heap.size Sa (.slice Aa rs.length ca) rs, Bk gr [.string s, J ((s.size : Int) - r.length), J 0, J wr2] 44, Bk g2 [J 0, .slice none 0 0, .slice none 0 0] 26, R] := O1265
      clear O1265
      have O1267 : Own w0 _ [Chunk.row k55 55 w0.heap.size Sa (.slice Aa rs.length ca) rs, Chunk.void, Bk g1261 [.int .u8 x, .int .u8 x] 55, Bk gr [.string s, J ((s.size : Int) - r.length), J 0, J wr2] 44, Bk g2 [J 0, .slice none 0 0, .slice none 0 0] 26, R] := O1266.void.sel [2, 0, 1, 3, 4, 5] (by decide)
      refine gw_append1 k55 0 (p := (⟨x, x⟩ : S55)) (cs := [.int .u8 x, .int .u8 x]) H1264 O1267 (want_none rfl) rfl (by decide) rfl Tryz.underlying23 gwinfo55 rfl (by decide) (by decide) rfl (H1264.ev rfl) (H1264.ev rfl) (fun w_ h_ => k55_mkM w_ _ _ (⟨x, x⟩ : S55) ) O1267.below.size (by omega) ?_
      intro A1268 c1269 S1270 _ w1272 H1273 O1274; clear H1264 O1266 O1267
      have O1275 : Own w0 w1272 [Chunk.row k55 55 w0.heap.size S1270 (.slice A1268 ((rs ++ [(⟨x, x⟩ : S55)]).length) c1269) (rs ++ [(⟨x, x⟩ : S55)]), Bk g1261 [.int .u8 x, .int .u8 x] 55, Bk gr [.string s, J ((s.size : Int) - r.length), J 0, J wr2] 44, Bk g2 [J 0, .slice none 0 0, .slice none 0 0] 26, R] := O1274
      clear O1274
      refine V H1273 (op_assign rfl (H1273.ev rfl)) ?_
      intro _ H1277; clear H1273
      refine wpList_nil ?_
      refine gw_blk ?_
      refine gw_nx (hK832 _ _ ?_)
      refine wp_region_lit ?_
      refine V H1277 (op_assign rfl (ev_c _ _)) ?_
      intro _ H1279; clear H1277
      refine wpList_nil ?_
      refine gw_nx ⟨_, ?_, ((s.size : Int) - r.length), 0, wr2, false, (rs ++ [(⟨x, x⟩ : S55)]), A1268, _, _, _, (H1279.pick (t := 5) rfl (H1279.pick (t := 4) rfl (H1279.pick (t := 0) rfl (H1279.pick (t := 2) rfl (H1279.pick (t := 3) rfl H1279.nil))))), O1275.sel [0, 2, 3, 4] (by decide), ?_, ?_, ?_, ?_, ?_, rfl⟩
      ·
       rw [hm737]; omega
      ·
       omega
      ·
       intro r_ hr_; rcases List.mem_append.1 hr_ with h_ | h_; (exact hbs r_ h_); (rw [List.mem_singleton.1 h_]; dsimp only; omega)
      ·
       rw [List.length_append, List.length_singleton]; omega
      ·
       exact .inl ⟨rfl, hw0, k, by (try rw [hrr2]); (try rw [hrr]); omega, by (try rw [hrr2]); (try rw [hrr]); exact hR.symm⟩
      ·
       rfl
   ·
    subst hpe
    refine gw_seq fun K1280 hK1280 => ?_
    refine wp_block ?_
    refine gR fun K1281 hK1281 => ?_
    refine V H735 (op_move rfl (H735.ev rfl)) ?_
    intro _ H1283; clear H735
    refine V H1283 (op_nil rfl (H1283.ev rfl)) ?_
    intro _ H1285; clear H1283
    refine V H1285 (op_field (gwfld44_1 _ _) rfl (H1285.ev rfl)) ?_
    intro _ H1287; clear H1285
    refine V H1287 (op_load1 gwagg3 rfl (H1287.ev rfl) (blk_at (O736.get 1 rfl) rfl)) ?_
    intro _ H1289; clear H1287
    refine V H1289 (op_assign rfl (H1289.ev rfl)) ?_
    intro _ H1291; clear H1289
    refine gE hK1281 ?_
    refine gR fun K1292 hK1292 => ?_
    refine V H1291 (op_move rfl (H1291.ev rfl)) ?_
    intro _ H1294; clear H1291
    refine gw_call H1294 (want_none rfl) rfl (by decide) (op_callL Tryz.func17 (by kernel_rfl) rfl rfl (ar_cons (H1294.ev rfl) ar_nil)) (byte_calls gr s s (s.size : Int) cd2 wr2 0 (s.size : Int) cd2 wr2 false w0 _ (O736.lt 1 rfl rfl).1 O736.below (O736.get 1 rfl) (byte_bad s cd2 wr2 (by omega) hc0)) ?_
    rintro e1295 w1296 ⟨rfl, hb1297⟩
    refine ⟨_, rfl, fun _ H1299 => ?_⟩
    have O1300 := O736.calls 1 rfl hb1297
    clear H1294 O736 hb1297
    refine V H1299 (op_move rfl (H1299.ev rfl)) ?_
    intro _ H1303; clear H1299
    refine V H1303 (op_extract rfl (H1303.ev rfl) rfl) ?_
    intro _ H1305; clear H1303
    refine V H1305 (op_extract rfl (H1305.ev rfl) rfl) ?_
    intro _ H1307; clear H1305
    refine V H1307 (op_assign rfl (H1307.ev rfl)) ?_
    intro _ H1309; clear H1307
    refine V H1309 (op_assign rfl (H1309.ev rfl)) ?_
    intro _ H1311; clear H1309
    refine gE hK1292 ?_
    refine gw_seq fun K1312 hK1312 => ?_
    refine gR fun K1313 hK1313 => ?_
    refine V H1311 (op_move rfl (H1311.ev rfl)) ?_
    intro _ H1315; clear H1311
    refine V H1315 (op_nil rfl (H1315.ev rfl)) ?_
    intro _ H1317; clear H1315
    refine V H1317 (op_field (gwfld44_2 _ _) rfl (H1317.ev rfl)) ?_
    intro _ H1319; clear H1317
    refine V H1319 (op_load1 gwagg27 rfl (H1319.ev rfl) (blk_at (O1300.get 1 rfl) rfl)) ?_
    intro _ H1321; clear H1319
    refine V H1321 (op_nei rfl (H1321.ev rfl) (ev_c _ _)) ?_
    intro _ H1323; clear H1321
    have H1324 := H1323.lit (b := true) (decide_eq_true hc0)
    clear H1323
    refine V H1324 (op_move rfl (H1324.ev rfl)) ?_
    intro _ H1326; clear H1324
    refine Vo H1326 (wn H1326 rfl rfl rfl rfl) ?_
    intro _ H1328; clear H1326
    refine Vo H1328 (wn H1328 rfl rfl rfl rfl) ?_
    intro _ H1330; clear H1328
    refine Vo H1330 (wn H1330 rfl rfl rfl rfl) ?_
    intro _ H1332; clear H1330
    refine Vo H1332 (want_undef H1332 rfl rfl rfl rfl) ?_
    intro _ H1334; clear H1332
    refine Vo H1334 (want_undef H1334 rfl rfl rfl rfl) ?_
    intro _ H1336; clear H1334
    refine Vo H1336 (wn H1336 rfl rfl rfl rfl) ?_
    intro _ H1338; clear H1336
    refine Vo H1338 (wn H1338 rfl rfl rfl rfl) ?_
    intro _ H1340; clear H1338
    refine Vo H1340 (want_undef H1340 rfl rfl rfl rfl) ?_
    intro _ H1342; clear H1340
    refine Vo H1342 (want_undef H1342 rfl rfl rfl rfl) ?_
    intro _ H1344; clear H1342
    refine Vo H1344 (wn H1344 rfl rfl rfl rfl) ?_
    intro _ H1346; clear H1344
    refine V H1346 (op_pick_t rfl (H1346.ev rfl) (ev_c _ _)) ?_
    intro _ H1348; clear H1346
    refine gE hK1313 ?_
    refine gw_cond H1348 rfl (fun hb1349 => ?_) (fun hb1349 => ?_)
    rotate_left
    ·
     cases hb1349
    refine wp_exit ?_
    refine gw_thx ?_
    refine gw_out (by decide) ?_
    refine gw_thx ?_
    refine gw_thx ?_
    refine gw_in ?_
    refine gw_nx (hK727 _ _ ?_)
    refine gR fun K1350 hK1350 => ?_
    refine V H1348 (op_move rfl (H1348.ev rfl)) ?_
    intro _ H1352; clear H1348
    refine V H1352 (op_move rfl (H1352.ev rfl)) ?_
    intro _ H1354; clear H1352
    refine gw_call H1354 (want_none rfl) rfl (by decide) (op_callL Tryz.func36 (by kernel_rfl) rfl rfl (ar_cons (H1354.ev rfl) (ar_cons (H1354.ev rfl) ar_nil))) (Ranges_out Aa ca rs ((!(decide ((s.size : Int) ≤ i0))) && (decide ((bt s i0) = 33))) _ (Kd.R_reads' (O1300.get 0 rfl)).2.2 (row_cap (O1300.get 0 rfl)) (hbs) (by omega)) ?_
    rintro e1358 w1359 ⟨A1355, c1356, S1357, rfl, hb1360⟩
    refine ⟨_, rfl, fun _ H1362 => ?_⟩
    have O1363 := O1300.fresh hb1360
    have hbel1364 := O1300.below
    clear H1354 O1300 hb1360
    have O1365 := O1363.lowrow 0 rfl (base' := w0.heap.size) (Below.size hbel1364)
    refine V H1362 (op_build (cells := #[J 1, .slice A1355 ((canonP fun c_ => inR rs c_ != ((!(decide ((s.size : Int) ≤ i0))) && (decide ((bt s i0) = 33)))).length) c1356, .slice none 0 0]) rfl (pt_cons (ev_c _ _) (pt_cons (H1362.ev rfl) pt_nil)) (by kernel_rfl)) ?_
    intro _ H1367; clear H1362
    refine gw_setn 3 H1367 O1365 rfl (want_none rfl) rfl (op_storen gwsiz26 rfl (H1367.ev rfl) (H1367.ev rfl) (O1365.get 3 rfl) rfl (by simp) (by simp [Value.oneCell'])) ?_
    intro _ w1370 H1369 O1371; clear H1367 O1365
    refine gE hK1350 ?_
    refine wp_ret ?_
    refine gw_rets1 H1369 rfl (rv_celln H1369 rfl gwagg26 gwsiz26 (O1371.get 3 rfl) rfl) ?_
    have O1372 := O1371.row_view 0 rfl
    clear O1371
    have O1373 : Own w0 w1370 [Chunk.view k55 S1357 A1355 ((canonP fun c_ => inR rs c_ != ((!(decide ((s.size : Int) ≤ i0))) && (decide ((bt s i0) = 33)))).length) c1356 (canonP fun c_ => inR rs c_ != ((!(decide ((s.size : Int) ≤ i0))) && (decide ((bt s i0) = 33)))), Chunk.row k55 55 w0.heap.size Sa (.slice Aa rs.length ca) rs, Bk gr [.string s, J (s.size : Int), J cd2, J wr2] 44, Bk g2 [J 1, .slice A1355 ((canonP fun c_ => inR rs c_ != ((!(decide ((s.size : Int) ≤ i0))) && (decide ((bt s i0) = 33)))).length) c1356, .slice none 0 0] 26, R] := O1372
    clear O1372
    exact ⟨_, _, _, _, _, _, _, rfl, O1373.sel [4, 2, 0] (by decide), cls_bad (e := cd2) (m := m) (by rw [← hRES]; exact hR.symm) rfl rfl hc0 hw0⟩
end GClass_
export GClass_ (over_walk class_walk)
end Go.Proofs.YtelbgmpeghhakaaGreat.PA
end
section
namespace Go.Proofs.YtelbgmpeghhakaaGreat.PA
open Go.RowKit Go.Proofs.YtelbgmpeghhakaaGreatW.PrintWords Go.Proofs.YtelbgmpeghhakaaGreatW.PrintLast Go.Proofs.YtelbgmpeghhakaaGreatW.PrintMore
set_option linter.unusedVariables false
set_option linter.unusedSimpArgs false
abbrev ParRes := List NN ⊕ (Int × Nat)
def parI (s : ByteArray) (RES : ParRes) (p cd wr : Int) (kids : List NN) : Prop :=
  (cd = 0 ∧ wr = 0 ∧ ∃ k, (rest_ s p).length < k ∧ parseS k (rest_ s p) kids = RES) ∨ (cd ≠ 0 ∧ p = s.size ∧ ∃ m : Nat, RES = .inr (cd, m) ∧ wr = s.size - m)
def parB (RES : ParRes) (kids : List NN) (k : Nat) (x : Int) (q : Bool) (r : List Int) : Prop :=
  RES = if q = true then parseS k r (kids ++ [oneN x]) else if x = 63 then parseS k r (kids ++ [allN]) else if x = 42 then parseS k r (kids ++ [starN]) else
        if x = 91 then (match classT r with
          | .inl (rs, nt, r2) => parseS k r2 (kids ++ [setN (canonP fun c => inR rs c != nt)])
          | .inr e => .inr e)
        else parseS k r (kids ++ [oneN x])
theorem par_in {s : ByteArray} {p cd wr : Int} {RES : ParRes} {kids : List NN} (hp : 0 ≤ p ∧ p ≤ s.size) (h : parI s RES p cd wr kids) :
    (cd = 0 ∧ wr = 0 ∧ p = s.size ∧ RES = .inl kids) ∨ (cd = 0 ∧ wr = 0 ∧ p < s.size ∧ byteS (rest_ s p) = none ∧ RES = .inr (31, 0)) ∨ (∃ x q r k, cd = 0 ∧ wr = 0 ∧ p < s.size ∧ byteS (rest_ s p) = some (x, q, r) ∧ r.length < k ∧ parB RES kids k x q r) ∨ (cd ≠ 0 ∧ p = s.size ∧ ∃ m : Nat, RES = .inr (cd, m) ∧ wr = s.size - m) := by
  rcases h with ⟨h0, h1, k, hk, rfl⟩ | h
  · have hl := rest_len s p hp
    cases k with
    | zero => omega
    | succ k =>
      cases ht : rest_ s p with
      | nil =>
        rw [ht] at hl
        exact .inl ⟨h0, h1, by simp at hl; omega, rfl⟩
      | cons y t =>
        rw [ht] at hl hk
        have hlt : p < s.size := by simp only [List.length_cons] at hl; omega
        cases hb : byteS (y :: t) with
        | none => exact .inr (.inl ⟨h0, h1, hlt, rfl, by rw [parseS]; simp only [hb]⟩)
        | some v =>
          obtain ⟨x, q, r⟩ := v
          have := byteS_lt hb
          exact .inr (.inr (.inl ⟨x, q, r, k, h0, h1, hlt, rfl, by omega, by unfold parB; rw [parseS]; simp only [hb]; rfl⟩))
  · exact .inr (.inr (.inr h))
def parseG (s : ByteArray) : Int × List NN × Int × Int :=
  if 256 < (s.size : Int) then (0, [], 2, 0) else match parseS (s.size + 1) (bytesOf s) [] with
    | .inl kids => (2, kids, 0, 0)
    | .inr (e, m) => (0, [], e, (s.size : Int) - (m : Nat))
theorem parseG_long {s : ByteArray} (h : 256 < (s.size : Int)) : parseG s = (0, [], 2, 0) := if_pos h
theorem parseG_ok {s : ByteArray} {kids : List NN} (h : ¬ 256 < (s.size : Int)) (hR : (.inl kids : ParRes) = parseS (s.size + 1) (bytesOf s) []) : parseG s = (2, kids, 0, 0) := by
  unfold parseG
  rw [if_neg h, ← hR]
theorem parseG_bad {s : ByteArray} {e : Int} {m : Nat} (h : ¬ 256 < (s.size : Int)) (hR : (.inr (e, m) : ParRes) = parseS (s.size + 1) (bytesOf s) []) : parseG s = (0, [], e, (s.size : Int) - (m : Nat)) := by
  unfold parseG
  rw [if_neg h, ← hR]
theorem class_fork (w0 w : World) (R : Chunk) (gr : Nat) (s : ByteArray) (i0 wr : Int) (hi : 0 ≤ i0 ∧ i0 ≤ s.size) (hsz : s.size ≤ 256) (HO : Own w0 w [R, RdB gr s i0 0 wr]) :
    Calls Tryz.prog 20 #[.pointer (some ⟨gr, 0, none⟩)] w fun e w' =>
      (∃ rs nt r A c S, classT (rest_ s i0) = .inl (rs, nt, r) ∧ rest_ s ((s.size : Int) - r.length) = r ∧ i0 ≤ (s.size : Int) - r.length ∧ (s.size : Int) - r.length ≤ s.size ∧ e = .returned (.agg #[.int .i64 1, .slice A (canonP fun c_ => inR rs c_ != nt).length c, .slice none 0 0]) ∧ Own w0 w' [R, RdB gr s ((s.size : Int) - r.length) 0 wr, Chunk.view k55 S A (canonP fun c_ => inR rs c_ != nt).length c (canonP fun c_ => inR rs c_ != nt)]) ∨
      (∃ e' m L A c S, classT (rest_ s i0) = .inr (e', m) ∧ e' ≠ 0 ∧ e = .returned (.agg #[.int .i64 1, .slice A (L : List RR).length c, .slice none 0 0]) ∧ Own w0 w' [R, RdB gr s (s.size : Int) e' ((s.size : Int) - (m : Nat)), Chunk.view k55 S A L.length c L]) := by
  refine (class_walk w0 w R gr s i0 wr hi hsz HO).mono ?_
  rintro e w' ⟨L, A, c, S, i', c', wr', rfl, hO, hP⟩
  unfold clsP at hP
  cases hT : classT (rest_ s i0) with
  | inl v =>
    obtain ⟨rs, nt, r⟩ := v
    rw [hT] at hP
    obtain ⟨rfl, rfl, rfl, rfl, h5, h6, h7⟩ := hP
    exact .inl ⟨rs, nt, r, A, c, S, rfl, h5, h6, h7, rfl, hO⟩
  | inr v =>
    obtain ⟨e', m⟩ := v
    rw [hT] at hP
    obtain ⟨rfl, rfl, h3, rfl⟩ := hP
    exact .inr ⟨c', m, L, A, c, S, rfl, h3, rfl, hO⟩
end Go.Proofs.YtelbgmpeghhakaaGreat.PA
end
section
namespace Go.Proofs.YtelbgmpeghhakaaGreat.PA
open Go.RowKit Go.Proofs.YtelbgmpeghhakaaGreatW.PrintWords Go.Proofs.YtelbgmpeghhakaaGreatW.PrintLast Go.Proofs.YtelbgmpeghhakaaGreatW.PrintMore
set_option linter.unusedVariables false
set_option linter.unusedSimpArgs false
namespace GParse_
theorem gwagg24 : ∀ w, (isAgg 24).run Tryz.prog w = .ok false w := fun _ => by kernel_rfl
theorem gwagg26 : ∀ w, (isAgg 26).run Tryz.prog w = .ok true w := fun _ => by kernel_rfl
theorem gwagg27 : ∀ w, (isAgg 27).run Tryz.prog w = .ok false w := fun _ => by kernel_rfl
theorem gwagg3 : ∀ w, (isAgg 3).run Tryz.prog w = .ok false w := fun _ => by kernel_rfl
theorem gwfld26_2 (g off : Nat) : ∀ w, (Instr.fieldAt 26 (.pointer (some ⟨g, off, none⟩)) 2).run Tryz.prog w = .ok (.pointer (some ⟨g, off + 2, none⟩)) w := fun _ => by kernel_rfl
theorem gwfld44_2 (g off : Nat) : ∀ w, (Instr.fieldAt 44 (.pointer (some ⟨g, off, none⟩)) 2).run Tryz.prog w = .ok (.pointer (some ⟨g, off + 2, none⟩)) w := fun _ => by kernel_rfl
theorem gwfld44_3 (g off : Nat) : ∀ w, (Instr.fieldAt 44 (.pointer (some ⟨g, off, none⟩)) 3).run Tryz.prog w = .ok (.pointer (some ⟨g, off + 3, none⟩)) w := fun _ => by kernel_rfl
theorem gwinfo26 : (Tryz.prog.info? 26).map (fun i => (i.zero, i.size, i.bytes)) = some (some (.agg #[.int .i64 0, .slice none 0 0, .slice none 0 0]), 3, 56) := by kernel_rfl
theorem gwsiz24 : ∀ w, (sizeOf 24).run Tryz.prog w = .ok 1 w := fun _ => by kernel_rfl
theorem gwsiz26 : ∀ w, (sizeOf 26).run Tryz.prog w = .ok 3 w := fun _ => by kernel_rfl
theorem gwzer26 : ∀ w, (zeroValue 26).run Tryz.prog w = .ok (.agg #[.int .i64 0, .slice none 0 0, .slice none 0 0]) w := fun _ => by kernel_rfl
set_option maxHeartbeats 4000000 in
set_option maxRecDepth 100000 in
theorem one_walk (c0 : Int) (w : World) :
    Calls Tryz.prog 18 #[.int .u8 c0] w fun e w' => ∃ A c S, e = .returned (.agg #[.int .i64 1, .slice A ([(⟨c0, c0⟩ : S55)]).length c, .slice none 0 0]) ∧ Out w w' (fun _ => False) [Chunk.view k55 S A ([(⟨c0, c0⟩ : S55)]).length c ([(⟨c0, c0⟩ : S55)])] := by
 refine gw_start (N := 8) (vs := [.int .u8 c0]) Tryz.func18 rfl rfl (by simp) fun a HF HO => ?_
 replace HO : Own w w [] := HO
 refine gR fun K1 hK1 => ?_
 refine gw_new HF HO (want_none rfl) rfl (by decide) (op_alloc gwzer26 rfl) ?_
 intro g2 _ w4 H5 O6; clear HF HO
 have O7 : Own w w4 [Bk g2 [J 0, .slice none 0 0, .slice none 0 0] 26] := O6
 clear O6
 refine gE hK1 ?_
 refine gR fun K8 hK8 => ?_
 refine V H5 (op_move rfl (H5.ev rfl)) ?_
 intro _ H10; clear H5
 refine V H10 (op_move rfl (H10.ev rfl)) ?_
 intro _ H12; clear H10
 refine V H12 (op_build (cells := #[.int .u8 c0, .int .u8 c0]) rfl (pt_cons (H12.ev rfl) (pt_cons (H12.ev rfl) pt_nil)) (by kernel_rfl)) ?_
 intro _ H14; clear H12
 refine gw_news (O := .cells #[.int .u8 c0, .int .u8 c0] 55 (0, 0)) (n := 1) H14 O7 (want_none rfl) rfl (by decide) (op_bslice (by kernel_rfl) rfl (pt_cons (H14.ev rfl) pt_nil)) ?_
 intro g15 _ w17 H18 O19; clear H14 O7
 have O20 : Own w w17 [Bk g15 [.int .u8 c0, .int .u8 c0] 55, Bk g2 [J 0, .slice none 0 0, .slice none 0 0] 26] := O19
 clear O19
 have O22 : Own w w17 [Chunk.view k55 (fun k_ => k_ = g15 ∨ Chunk.void.S k_) (some ⟨g15, 0, none⟩) (([(⟨c0, c0⟩ : S55)]).length) (([(⟨c0, c0⟩ : S55)]).length) ([(⟨c0, c0⟩ : S55)]), Bk g2 [J 0, .slice none 0 0, .slice none 0 0] 26] := Own.lit_view (cs := [.int .u8 c0, .int .u8 c0]) (O20.void.sel [1, 0, 2] (by decide)) k55 [(⟨c0, c0⟩ : S55)] (fun w_ h_ => reps_more (k55_mkF _ _ (⟨c0, c0⟩ : S55)) rfl reps_none) (by simp [maxLen])
 clear O20
 refine V H18 (op_build (cells := #[J 1, .slice (some ⟨g15, 0, none⟩) (([(⟨c0, c0⟩ : S55)]).length) (([(⟨c0, c0⟩ : S55)]).length), .slice none 0 0]) rfl (pt_cons (ev_c _ _) (pt_cons (H18.ev rfl) pt_nil)) (by kernel_rfl)) ?_
 intro _ H24; clear H18
 refine gw_setn 1 H24 O22 rfl (want_none rfl) rfl (op_storen gwsiz26 rfl (H24.ev rfl) (H24.ev rfl) (O22.get 1 rfl) rfl (by simp) (by simp [Value.oneCell'])) ?_
 intro _ w27 H26 O28; clear H24 O22
 refine gE hK8 ?_
 refine wp_ret ?_
 refine gw_rets1 H26 rfl (rv_celln H26 rfl gwagg26 gwsiz26 (O28.get 1 rfl) rfl) ?_
 exact ⟨_, _, _, rfl, (O28.sel [0] (by decide)).out⟩
set_option maxHeartbeats 4000000 in
set_option maxRecDepth 100000 in
theorem anything_walk (w : World) :
    Calls Tryz.prog 19 #[] w fun e w' => ∃ A c S, e = .returned (.slice A ([(⟨0, 255⟩ : S55)]).length c) ∧ Out w w' (fun _ => False) [Chunk.view k55 S A ([(⟨0, 255⟩ : S55)]).length c ([(⟨0, 255⟩ : S55)])] := by
 refine gw_start (N := 3) (vs := []) Tryz.func19 rfl rfl (by simp) fun a HF HO => ?_
 replace HO : Own w w [] := HO
 refine gR fun K1 hK1 => ?_
 refine V HF (op_assign rfl (ev_c _ _)) ?_
 intro _ H3; clear HF
 refine gE hK1 ?_
 refine gR fun K4 hK4 => ?_
 refine V H3 (op_build (cells := #[.int .u8 0, .int .u8 255]) rfl (pt_cons (ev_c _ _) (pt_cons (ev_c _ _) pt_nil)) (by kernel_rfl)) ?_
 intro _ H6; clear H3
 refine gw_news (O := .cells #[.int .u8 0, .int .u8 255] 55 (0, 0)) (n := 1) H6 HO (want_none rfl) rfl (by decide) (op_bslice (by kernel_rfl) rfl (pt_cons (H6.ev rfl) pt_nil)) ?_
 intro g7 _ w9 H10 O11; clear H6 HO
 have O12 : Own w w9 [Bk g7 [.int .u8 0, .int .u8 255] 55] := O11
 clear O11
 have O14 : Own w w9 [Chunk.view k55 (fun k_ => k_ = g7 ∨ Chunk.void.S k_) (some ⟨g7, 0, none⟩) (([(⟨0, 255⟩ : S55)]).length) (([(⟨0, 255⟩ : S55)]).length) ([(⟨0, 255⟩ : S55)])] := Own.lit_view (cs := [.int .u8 0, .int .u8 255]) (O12.void.sel [1, 0] (by decide)) k55 [(⟨0, 255⟩ : S55)] (fun w_ h_ => reps_more (k55_mkF _ _ (⟨0, 255⟩ : S55)) rfl reps_none) (by simp [maxLen])
 clear O12
 refine V H10 (op_assign rfl (H10.ev rfl)) ?_
 intro _ H16; clear H10
 refine gE hK4 ?_
 refine wp_ret ?_
 refine gw_ret1 H16 rfl rfl ?_
 exact ⟨_, _, _, rfl, (O14.sel [0] (by decide)).out⟩
set_option maxHeartbeats 4000000 in
set_option maxRecDepth 100000 in
theorem Parse_walk (s : ByteArray) (w : World) :
    Calls Tryz.prog 10 #[.string s] w fun e w' => ∃ A c S, e = .returned (.tuple #[.agg #[.int .i64 (parseG s).1, .slice none 0 0, .slice A (parseG s).2.1.length c], .int .i64 (parseG s).2.2.1, .int .i64 (parseG s).2.2.2]) ∧ Out w w' (fun _ => False) [Chunk.nrow k26 26 w.heap.size S (.slice A (parseG s).2.1.length c) (parseG s).2.1] := by
 refine gw_start (N := 70) (vs := [.string s]) Tryz.func10 rfl rfl (by simp) fun a HF HO => ?_
 replace HO : Own w w [] := HO
 refine gR fun K1 hK1 => ?_
 refine gw_new HF HO (want_none rfl) rfl (by decide) (op_alloc gwzer26 rfl) ?_
 intro g2 _ w4 H5 O6; clear HF HO
 have O7 : Own w w4 [Bk g2 [J 0, .slice none 0 0, .slice none 0 0] 26] := O6
 clear O6
 refine V H5 (op_assign rfl (ev_c _ _)) ?_
 intro _ H9; clear H5
 refine V H9 (op_assign rfl (ev_c _ _)) ?_
 intro _ H11; clear H9
 refine gE hK1 ?_
 refine gw_seq fun K12 hK12 => ?_
 refine gR fun K13 hK13 => ?_
 refine V H11 (op_move rfl (H11.ev rfl)) ?_
 intro _ H15; clear H11
 refine V H15 (op_lens Tryz.underlying9 rfl (H15.ev rfl)) ?_
 intro _ H17; clear H15
 refine V H17 (op_gtr rfl (H17.ev rfl) (ev_c _ _)) ?_
 intro _ H19; clear H17
 refine gE hK13 ?_
 refine gw_cond H19 rfl (fun hb20 => ?_) (fun hb20 => ?_)
 ·
  have H21 := H19.subst_ (d := 12) (b := true) rfl hb20
  clear H19
  (try simp only [decide_eq_true_eq] at hb20)
  refine gR fun K22 hK22 => ?_
  refine V H21 (op_build (cells := #[J 0, .slice none 0 0, .slice none 0 0]) rfl pt_nil (by kernel_rfl)) ?_
  intro _ H24; clear H21
  refine gw_setn 0 H24 O7 rfl (want_none rfl) rfl (op_storen gwsiz26 rfl (H24.ev rfl) (H24.ev rfl) (O7.get 0 rfl) rfl (by simp) (by simp [Value.oneCell'])) ?_
  intro _ w27 H26 O28; clear H24 O7
  refine V H26 (op_assign rfl (ev_c _ _)) ?_
  intro _ H30; clear H26
  refine V H30 (op_assign rfl (ev_c _ _)) ?_
  intro _ H32; clear H30
  refine gE hK22 ?_
  refine wp_ret ?_
  refine gw_thr ?_
  refine gw_rets3 H32 rfl (rv_celln H32 rfl gwagg26 gwsiz26 (O28.get 0 rfl) rfl) (rv_tmp H32 rfl) (rv_tmp H32 rfl) ?_
  rw [show parseG s = (0, [], 2, 0) from parseG_long (by assumption)]
  exact ⟨none, 0, _, rfl, ((O28.nrow_nil k26 26 w.heap.size).sel [0] (by decide)).out⟩
 ·
  have H33 := H19.subst_ (d := 12) (b := false) rfl hb20
  clear H19
  (try simp only [decide_eq_false_iff_not, Int.not_lt] at hb20)
  have hlong : ¬ 256 < (s.size : Int) := by omega
  obtain ⟨RES, hRES⟩ : ∃ R_ : ParRes, R_ = parseS (s.size + 1) (bytesOf s) [] := ⟨_, rfl⟩
  refine wp_skip ?_
  refine gw_nx (hK12 _ _ ?_)
  refine gR fun K34 hK34 => ?_
  refine V H33 (op_move rfl (H33.ev rfl)) ?_
  intro _ H36; clear H33
  refine V H36 (op_build (cells := #[.string s, J 0, J 0, J 0]) rfl (pt_cons (H36.ev rfl) pt_nil) (by kernel_rfl)) ?_
  intro _ H38; clear H36
  refine gw_new H38 O7 (want_none rfl) rfl (by decide) (op_box rfl (H38.ev rfl)) ?_
  intro g39 _ w41 H42 O43; clear H38 O7
  have O44 : Own w w41 [Bk g39 [.string s, J 0, J 0, J 0] 44, Bk g2 [J 0, .slice none 0 0, .slice none 0 0] 26] := O43
  clear O43
  refine V H42 (op_assign rfl (H42.ev rfl)) ?_
  intro _ H46; clear H42
  refine gE hK34 ?_
  refine gR fun K47 hK47 => ?_
  refine V H46 (op_build (cells := #[J 2, .slice none 0 0, .slice none 0 0]) rfl (pt_cons (ev_c _ _) pt_nil) (by kernel_rfl)) ?_
  intro _ H49; clear H46
  refine gw_new H49 O44 (want_none rfl) rfl (by decide) (op_alloc gwzer26 rfl) ?_
  intro g50 _ w52 H53 O54; clear H49 O44
  have O55 : Own w w52 [Bk g50 [J 0, .slice none 0 0, .slice none 0 0] 26, Bk g39 [.string s, J 0, J 0, J 0] 44, Bk g2 [J 0, .slice none 0 0, .slice none 0 0] 26] := O54
  clear O54
  refine gw_setn 0 H53 O55 rfl (want_none rfl) rfl (op_storen gwsiz26 rfl (H53.ev rfl) (H53.ev rfl) (O55.get 0 rfl) rfl (by simp) (by simp [Value.oneCell'])) ?_
  intro _ w58 H57 O59; clear H53 O55
  refine gE hK47 ?_
  refine gw_seq fun K60 hK60 => ?_
  refine wp_block ?_
  have O61 := O59.nrow_nil k26 26 w.heap.size
  clear O59
  have O62 : Own w w58 [Chunk.nrow k26 26 w.heap.size (fun _ => False) (.slice none (([] : List S26).length) 0) ([] : List S26), Bk g50 [J 2, .slice none 0 0, .slice none 0 0] 26, Bk g39 [.string s, J 0, J 0, J 0] 44, Bk g2 [J 0, .slice none 0 0, .slice none 0 0] 26] := O61
  clear O61
  refine gw_loop (fun m_ a_ w_ => ∃ (p : Int) (cd2 : Int) (wr2 : Int) (kids : List S26) (Aa : Option Addr) (ca : Nat) (Sa : Nat → Prop), Fr 70 a_ [(2, .pointer (some ⟨g2, 0, none⟩)), (3, J 0), (4, J 0), (5, .pointer (some ⟨g39, 0, none⟩)), (6, .pointer (some ⟨g50, 0, none⟩))] ∧ Own w w_ [Chunk.nrow k26 26 w.heap.size Sa (.slice Aa kids.length ca) kids, Bk g50 [J 2, .slice none 0 0, .slice Aa kids.length ca] 26, Bk g39 [.string s, J p, J cd2, J wr2] 44, Bk g2 [J 0, .slice none 0 0, .slice none 0 0] 26] ∧ (0 ≤ p ∧ p ≤ s.size) ∧ ((kids.length : Int) ≤ p) ∧ (parI s RES p cd2 wr2 kids) ∧ m_ = (s.size - p.toNat)) ((s.size - (0 : Int).toNat)) ?_ ?_
  ·
   refine ⟨0, 0, 0, ([] : List S26), none, _, _, (H57.pick (t := 2) rfl (H57.pick (t := 3) rfl (H57.pick (t := 4) rfl (H57.pick (t := 5) rfl (H57.pick (t := 6) rfl H57.nil))))), O62.sel [0, 1, 2, 3] (by decide), ?_, ?_, ?_, rfl⟩
   ·
    omega
   ·
    show (0 : Int) ≤ 0; omega
   ·
    exact .inl ⟨rfl, rfl, s.size + 1, by unfold rest_; rw [List.length_drop, bytesOf_length]; omega, hRES.symm⟩
  ·
   rintro m64 _ w66 ⟨p, cd2, wr2, kids, Aa, ca, Sa, H67, O68, hp, hkl, hD, hm69⟩
   rcases par_in hp hD with ⟨hc0, hw0, hpe, hR⟩ | ⟨hc0, hw0, hpl, hb1, hR⟩ | ⟨x, q, r, k, hc0, hw0, hpl, hb1, hk, hR⟩ | ⟨hc0, hpe, m, hR, hw0⟩
   ·
    subst hc0
    subst hw0
    refine gw_seq fun K70 hK70 => ?_
    refine gR fun K71 hK71 => ?_
    refine V H67 (op_move rfl (H67.ev rfl)) ?_
    intro _ H73; clear H67
    refine gw_call H73 (want_none rfl) rfl (by decide) (op_callL Tryz.func16 (by kernel_rfl) rfl rfl (ar_cons (H73.ev rfl) ar_nil)) (over_walk g39 s p 0 0 _ (O68.get 2 rfl)) ?_
    rintro e74 w75 ⟨rfl, hb76⟩
    refine ⟨_, rfl, fun _ H78 => ?_⟩
    have O79 := O68.after hb76
    clear H73 O68 hb76
    refine V H78 (op_not rfl (H78.ev rfl)) ?_
    intro _ H82; clear H78
    have H83 := H82.lit (b := false) (by rw [hpe]; simp)
    clear H82
    refine gE hK71 ?_
    refine gw_cond H83 rfl (fun hb84 => ?_) (fun hb84 => ?_)
    skip
    ·
     cases hb84
    refine wp_exit ?_
    refine gw_thx ?_
    refine gw_thx ?_
    refine gw_in ?_
    refine gw_nx (hK60 _ _ ?_)
    refine gw_seq fun K85 hK85 => ?_
    refine gR fun K86 hK86 => ?_
    refine V H83 (op_move rfl (H83.ev rfl)) ?_
    intro _ H88; clear H83
    refine V H88 (op_nil rfl (H88.ev rfl)) ?_
    intro _ H90; clear H88
    refine V H90 (op_field (gwfld44_2 _ _) rfl (H90.ev rfl)) ?_
    intro _ H92; clear H90
    refine V H92 (op_load1 gwagg27 rfl (H92.ev rfl) (blk_at (O79.get 2 rfl) rfl)) ?_
    intro _ H94; clear H92
    refine V H94 (op_nei rfl (H94.ev rfl) (ev_c _ _)) ?_
    intro _ H96; clear H94
    have H97 := H96.lit (b := false) (by decide)
    clear H96
    refine gE hK86 ?_
    refine gw_cond H97 rfl (fun hb98 => ?_) (fun hb98 => ?_)
    skip
    ·
     cases hb98
    refine wp_skip ?_
    refine gw_nx (hK85 _ _ ?_)
    refine gR fun K99 hK99 => ?_
    refine V H97 (op_loadn gwagg26 gwsiz26 rfl (H97.ev rfl) (O79.get 1 rfl) rfl rfl) ?_
    intro _ H101; clear H97
    refine gw_setn 3 H101 O79 rfl (want_none rfl) rfl (op_storen gwsiz26 rfl (H101.ev rfl) (H101.ev rfl) (O79.get 3 rfl) rfl (by simp) (by simp [Value.oneCell'])) ?_
    intro _ w104 H103 O105; clear H101 O79
    refine V H103 (op_assign rfl (ev_c _ _)) ?_
    intro _ H107; clear H103
    refine V H107 (op_assign rfl (ev_c _ _)) ?_
    intro _ H109; clear H107
    refine gE hK99 ?_
    refine wp_ret ?_
    refine gw_rets3 H109 rfl (rv_celln H109 rfl gwagg26 gwsiz26 (O105.get 3 rfl) rfl) (rv_tmp H109 rfl) (rv_tmp H109 rfl) ?_
    rw [show parseG s = (2, kids, 0, 0) from parseG_ok hlong (hR.symm.trans hRES)]
    exact ⟨_, _, _, rfl, (O105.sel [0] (by decide)).out⟩
   ·
    subst hc0
    subst hw0
    obtain ⟨q0, hq0⟩ := byte_none s p 0 hp (by omega) hb1
    refine gw_seq fun K110 hK110 => ?_
    refine gR fun K111 hK111 => ?_
    refine V H67 (op_move rfl (H67.ev rfl)) ?_
    intro _ H113; clear H67
    refine gw_call H113 (want_none rfl) rfl (by decide) (op_callL Tryz.func16 (by kernel_rfl) rfl rfl (ar_cons (H113.ev rfl) ar_nil)) (over_walk g39 s p 0 0 _ (O68.get 2 rfl)) ?_
    rintro e114 w115 ⟨rfl, hb116⟩
    refine ⟨_, rfl, fun _ H118 => ?_⟩
    have O119 := O68.after hb116
    clear H113 O68 hb116
    refine V H118 (op_not rfl (H118.ev rfl)) ?_
    intro _ H122; clear H118
    have H123 := H122.lit (b := true) (by rw [Bool.not_eq_true', decide_eq_false_iff_not]; omega)
    clear H122
    refine gE hK111 ?_
    refine gw_cond H123 rfl (fun hb124 => ?_) (fun hb124 => ?_)
    rotate_left
    ·
     cases hb124
    refine wp_skip ?_
    refine gw_nx (hK110 _ _ ?_)
    refine wp_block ?_
    refine gR fun K125 hK125 => ?_
    refine gw_new H123 O119 (want_none rfl) rfl (by decide) (op_alloc gwzer26 rfl) ?_
    intro g126 _ w128 H129 O130; clear H123 O119
    have O131 : Own w w128 [Bk g126 [J 0, .slice none 0 0, .slice none 0 0] 26, Chunk.nrow k26 26 w.heap.size Sa (.slice Aa kids.length ca) kids, Bk g50 [J 2, .slice none 0 0, .slice Aa kids.length ca] 26, Bk g39 [.string s, J p, J 0, J 0] 44, Bk g2 [J 0, .slice none 0 0, .slice none 0 0] 26] := O130
    clear O130
    refine gE hK125 ?_
    refine gw_seq fun K132 hK132 => ?_
    refine gR fun K133 hK133 => ?_
    refine V H129 (op_move rfl (H129.ev rfl)) ?_
    intro _ H135; clear H129
    refine gw_call H135 (want_none rfl) rfl (by decide) (op_callL Tryz.func17 (by kernel_rfl) rfl rfl (ar_cons (H135.ev rfl) ar_nil)) (byte_calls g39 s s p 0 0 0 (s.size : Int) 31 (s.size : Int) q0 w _ (O131.lt 3 rfl rfl).1 O131.below (O131.get 3 rfl) (hq0)) ?_
    rintro e136 w137 ⟨rfl, hb138⟩
    refine ⟨_, rfl, fun _ H140 => ?_⟩
    have O141 := O131.calls 3 rfl hb138
    clear H135 O131 hb138
    refine V H140 (op_move rfl (H140.ev rfl)) ?_
    intro _ H144; clear H140
    refine V H144 (op_extract rfl (H144.ev rfl) rfl) ?_
    intro _ H146; clear H144
    refine V H146 (op_extract rfl (H146.ev rfl) rfl) ?_
    intro _ H148; clear H146
    refine V H148 (op_assign rfl (H148.ev rfl)) ?_
    intro _ H150; clear H148
    refine V H150 (op_assign rfl (H150.ev rfl)) ?_
    intro _ H152; clear H150
    refine gE hK133 ?_
    refine wp_block ?_
    refine gR fun K153 hK153 => ?_
    refine V H152 (op_move rfl (H152.ev rfl)) ?_
    intro _ H155; clear H152
    refine V H155 (op_assign rfl (H155.ev rfl)) ?_
    intro _ H157; clear H155
    refine gE hK153 ?_
    refine gw_cond H157 rfl (fun hb158 => ?_) (fun hb158 => ?_)
    ·
     have H159 := H157.subst_ (d := 28) (b := true) rfl hb158
     clear H157
     (try simp only [Bool.not_eq_true] at hb158)
     refine wp_region_lit ?_
     refine V H159 (op_move rfl (H159.ev rfl)) ?_
     intro _ H161; clear H159
     refine gw_call H161 (want_none rfl) rfl (by decide) (op_callL Tryz.func18 (by kernel_rfl) rfl rfl (ar_cons (H161.ev rfl) ar_nil)) (one_walk 0 _) ?_
     rintro e166 w167 ⟨A162, c163, S164, rfl, hb168⟩
     refine ⟨_, rfl, fun _ H170 => ?_⟩
     have O171 := O141.fresh hb168
     clear H161 O141 hb168
     refine gw_setn 1 H170 O171 rfl (want_none rfl) rfl (op_storen gwsiz26 rfl (H170.ev rfl) (H170.ev rfl) (O171.get 1 rfl) rfl (by simp) (by simp [Value.oneCell'])) ?_
     intro _ w175 H174 O176; clear H170 O171
     refine wpList_nil ?_
     refine gw_blk ?_
     refine gw_nx (hK132 _ _ ?_)
     refine wp_region_lit ?_
     refine V H174 (op_field (gwfld26_2 _ _) rfl (H174.ev rfl)) ?_
     intro _ H178; clear H174
     refine V H178 (op_load1 gwagg24 rfl (H178.ev rfl) (blk_at (O176.get 3 rfl) rfl)) ?_
     intro _ H180; clear H178
     refine V H180 (op_loadn gwagg26 gwsiz26 rfl (H180.ev rfl) (O176.get 1 rfl) rfl rfl) ?_
     intro _ H182; clear H180
     refine gw_news (O := .cells #[J 1, .slice A162 (([(⟨0, 0⟩ : S55)]).length) c163, .slice none 0 0] 26 (0, 0)) (n := 1) H182 O176 (want_none rfl) rfl (by decide) (op_bslice (by kernel_rfl) rfl (pt_cons (H182.ev rfl) pt_nil)) ?_
     intro g183 _ w185 H186 O187; clear H182 O176
     have O188 : Own w w185 [Bk g183 [J 1, .slice A162 (([(⟨0, 0⟩ : S55)]).length) c163, .slice none 0 0] 26, Chunk.view k55 S164 A162 (([(⟨0, 0⟩ : S55)]).length) c163 ([(⟨0, 0⟩ : S55)]), Bk g126 [J 1, .slice A162 (([(⟨0, 0⟩ : S55)]).length) c163, .slice none 0 0] 26, Chunk.nrow k26 26 w.heap.size Sa (.slice Aa kids.length ca) kids, Bk g50 [J 2, .slice none 0 0, .slice Aa kids.length ca] 26, Bk g39 [.string s, J (s.size : Int), J 31, J (s.size : Int)] 44, Bk g2 [J 0, .slice none 0 0, .slice none 0 0] 26] := O187
     clear O187
     have O189 : Own w w185 [Chunk.view k26 (fun k_ => k_ = g183 ∨ S164 k_) (some ⟨g183, 0, none⟩) (([(⟨1, ([(⟨0, 0⟩ : S55)]), []⟩ : S26)]).length) (([(⟨1, ([(⟨0, 0⟩ : S55)]), []⟩ : S26)]).length) ([(⟨1, ([(⟨0, 0⟩ : S55)]), []⟩ : S26)]), Bk g126 [J 1, .slice A162 (([(⟨0, 0⟩ : S55)]).length) c163, .slice none 0 0] 26, Chunk.nrow k26 26 w.heap.size Sa (.slice Aa kids.length ca) kids, Bk g50 [J 2, .slice none 0 0, .slice Aa kids.length ca] 26, Bk g39 [.string s, J (s.size : Int), J 31, J (s.size : Int)] 44, Bk g2 [J 0, .slice none 0 0, .slice none 0 0] 26] := Own.lit_view (cs := [J 1, .slice A162 (([(⟨0, 0⟩ : S55)]).length) c163, .slice none 0 0]) (O188.sel [0, 1, 2, 3, 4, 5, 6] (by decide)) k26 [(⟨1, ([(⟨0, 0⟩ : S55)]), []⟩ : S26)] (fun w_ h_ => reps_more (k26_mkF _ _ (⟨1, ([(⟨0, 0⟩ : S55)]), []⟩ : S26) h_.2.1 h_.1 (Nat.le_refl _) (Kd.F_nil _ _ _)) rfl reps_none) (by simp [maxLen])
     clear O188
     have O191 : Own w w185 [Chunk.nrow k26 26 w.heap.size Sa (.slice Aa kids.length ca) kids, Chunk.view k26 (fun k_ => k_ = g183 ∨ S164 k_) (some ⟨g183, 0, none⟩) (([(⟨1, ([(⟨0, 0⟩ : S55)]), []⟩ : S26)]).length) (([(⟨1, ([(⟨0, 0⟩ : S55)]), []⟩ : S26)]).length) ([(⟨1, ([(⟨0, 0⟩ : S55)]), []⟩ : S26)]), Bk g126 [J 1, .slice A162 (([(⟨0, 0⟩ : S55)]).length) c163, .slice none 0 0] 26, Bk g50 [J 2, .slice none 0 0, .slice Aa kids.length ca] 26, Bk g39 [.string s, J (s.size : Int), J 31, J (s.size : Int)] 44, Bk g2 [J 0, .slice none 0 0, .slice none 0 0] 26] := O189.sel [2, 0, 1, 3, 4, 5] (by decide)
     refine gw_nappend k26 (ys := [(⟨1, ([(⟨0, 0⟩ : S55)]), []⟩ : S26)]) H186 O191 (want_none rfl) rfl (by decide) rfl Tryz.underlying24 gwinfo26 rfl (by decide) (by decide) (H186.ev rfl) (H186.ev rfl) (fun w_ h_ => h_.1) O191.below.size (by omega) ?_
     intro A192 c193 S194 _ w196 H197 O198; clear H186 O189 O191
     have O199 : Own w w196 [Chunk.nrow k26 26 w.heap.size S194 (.slice A192 ((kids ++ [(⟨1, ([(⟨0, 0⟩ : S55)]), []⟩ : S26)]).length) c193) (kids ++ [(⟨1, ([(⟨0, 0⟩ : S55)]), []⟩ : S26)]), Bk g126 [J 1, .slice A162 (([(⟨0, 0⟩ : S55)]).length) c163, .slice none 0 0] 26, Bk g50 [J 2, .slice none 0 0, .slice Aa kids.length ca] 26, Bk g39 [.string s, J (s.size : Int), J 31, J (s.size : Int)] 44, Bk g2 [J 0, .slice none 0 0, .slice none 0 0] 26] := O198
     clear O198
     refine V H197 (op_field (gwfld26_2 _ _) rfl (H197.ev rfl)) ?_
     intro _ H201; clear H197
     refine gw_set 2 H201 O199 rfl (want_none rfl) rfl (op_store1 gwsiz24 rfl (H201.ev rfl) (H201.ev rfl) rfl (blk_at (O199.get 2 rfl) rfl) (blkf (O199.get 2 rfl))) ?_
     intro _ w204 H203 O205; clear H201 O199
     refine wpList_nil ?_
     refine gw_blk ?_
     refine gw_nx ⟨_, ?_, (s.size : Int), 31, (s.size : Int), (kids ++ [(⟨1, ([(⟨0, 0⟩ : S55)]), []⟩ : S26)]), A192, _, _, (H203.pick (t := 2) rfl (H203.pick (t := 3) rfl (H203.pick (t := 4) rfl (H203.pick (t := 5) rfl (H203.pick (t := 6) rfl H203.nil))))), O205.sel [0, 2, 3, 4] (by decide), ?_, ?_, ?_, rfl⟩
     ·
      rw [hm69]; omega
     ·
      omega
     ·
      rw [List.length_append, List.length_singleton]; omega
     ·
      exact .inr ⟨by decide, rfl, 0, hR, by omega⟩
    ·
     have H206 := H157.subst_ (d := 28) (b := false) rfl hb158
     clear H157
     (try simp only [Bool.not_eq_true] at hb158)
     refine gR fun K207 hK207 => ?_
     refine V H206 (op_move rfl (H206.ev rfl)) ?_
     intro _ H209; clear H206
     refine V H209 (op_eqi rfl (H209.ev rfl) (ev_c _ _)) ?_
     intro _ H211; clear H209
     have H212 := H211.lit (b := false) (by decide)
     clear H211
     refine V H212 (op_assign rfl (H212.ev rfl)) ?_
     intro _ H214; clear H212
     refine gE hK207 ?_
     refine gw_cond H214 rfl (fun hb215 => ?_) (fun hb215 => ?_)
     skip
     ·
      cases hb215
     refine gR fun K216 hK216 => ?_
     refine V H214 (op_move rfl (H214.ev rfl)) ?_
     intro _ H218; clear H214
     refine V H218 (op_eqi rfl (H218.ev rfl) (ev_c _ _)) ?_
     intro _ H220; clear H218
     have H221 := H220.lit (b := false) (by decide)
     clear H220
     refine V H221 (op_assign rfl (H221.ev rfl)) ?_
     intro _ H223; clear H221
     refine gE hK216 ?_
     refine gw_cond H223 rfl (fun hb224 => ?_) (fun hb224 => ?_)
     skip
     ·
      cases hb224
     refine gR fun K225 hK225 => ?_
     refine V H223 (op_move rfl (H223.ev rfl)) ?_
     intro _ H227; clear H223
     refine V H227 (op_eqi rfl (H227.ev rfl) (ev_c _ _)) ?_
     intro _ H229; clear H227
     have H230 := H229.lit (b := false) (by decide)
     clear H229
     refine V H230 (op_assign rfl (H230.ev rfl)) ?_
     intro _ H232; clear H230
     refine gE hK225 ?_
     refine gw_cond H232 rfl (fun hb233 => ?_) (fun hb233 => ?_)
     skip
     ·
      cases hb233
     refine wp_region_lit ?_
     refine V H232 (op_move rfl (H232.ev rfl)) ?_
     intro _ H235; clear H232
     refine gw_call H235 (want_none rfl) rfl (by decide) (op_callL Tryz.func18 (by kernel_rfl) rfl rfl (ar_cons (H235.ev rfl) ar_nil)) (one_walk 0 _) ?_
     rintro e240 w241 ⟨A236, c237, S238, rfl, hb242⟩
     refine ⟨_, rfl, fun _ H244 => ?_⟩
     have O245 := O141.fresh hb242
     clear H235 O141 hb242
     refine gw_setn 1 H244 O245 rfl (want_none rfl) rfl (op_storen gwsiz26 rfl (H244.ev rfl) (H244.ev rfl) (O245.get 1 rfl) rfl (by simp) (by simp [Value.oneCell'])) ?_
     intro _ w249 H248 O250; clear H244 O245
     refine wpList_nil ?_
     refine gw_blk ?_
     refine gw_nx (hK132 _ _ ?_)
     refine wp_region_lit ?_
     refine V H248 (op_field (gwfld26_2 _ _) rfl (H248.ev rfl)) ?_
     intro _ H252; clear H248
     refine V H252 (op_load1 gwagg24 rfl (H252.ev rfl) (blk_at (O250.get 3 rfl) rfl)) ?_
     intro _ H254; clear H252
     refine V H254 (op_loadn gwagg26 gwsiz26 rfl (H254.ev rfl) (O250.get 1 rfl) rfl rfl) ?_
     intro _ H256; clear H254
     refine gw_news (O := .cells #[J 1, .slice A236 (([(⟨0, 0⟩ : S55)]).length) c237, .slice none 0 0] 26 (0, 0)) (n := 1) H256 O250 (want_none rfl) rfl (by decide) (op_bslice (by kernel_rfl) rfl (pt_cons (H256.ev rfl) pt_nil)) ?_
     intro g257 _ w259 H260 O261; clear H256 O250
     have O262 : Own w w259 [Bk g257 [J 1, .slice A236 (([(⟨0, 0⟩ : S55)]).length) c237, .slice none 0 0] 26, Chunk.view k55 S238 A236 (([(⟨0, 0⟩ : S55)]).length) c237 ([(⟨0, 0⟩ : S55)]), Bk g126 [J 1, .slice A236 (([(⟨0, 0⟩ : S55)]).length) c237, .slice none 0 0] 26, Chunk.nrow k26 26 w.heap.size Sa (.slice Aa kids.length ca) kids, Bk g50 [J 2, .slice none 0 0, .slice Aa kids.length ca] 26, Bk g39 [.string s, J (s.size : Int), J 31, J (s.size : Int)] 44, Bk g2 [J 0, .slice none 0 0, .slice none 0 0] 26] := O261
     clear O261
     have O263 : Own w w259 [Chunk.view k26 (fun k_ => k_ = g257 ∨ S238 k_) (some ⟨g257, 0, none⟩) (([(⟨1, ([(⟨0, 0⟩ : S55)]), []⟩ : S26)]).length) (([(⟨1, ([(⟨0, 0⟩ : S55)]), []⟩ : S26)]).length) ([(⟨1, ([(⟨0, 0⟩ : S55)]), []⟩ : S26)]), Bk g126 [J 1, .slice A236 (([(⟨0, 0⟩ : S55)]).length) c237, .slice none 0 0] 26, Chunk.nrow k26 26 w.heap.size Sa (.slice Aa kids.length ca) kids, Bk g50 [J 2, .slice none 0 0, .slice Aa kids.length ca] 26, Bk g39 [.string s, J (s.size : Int), J 31, J (s.size : Int)] 44, Bk g2 [J 0, .slice none 0 0, .slice none 0 0] 26] := Own.lit_view (cs := [J 1, .slice A236 (([(⟨0, 0⟩ : S55)]).length) c237, .slice none 0 0]) (O262.sel [0, 1, 2, 3, 4, 5, 6] (by decide)) k26 [(⟨1, ([(⟨0, 0⟩ : S55)]), []⟩ : S26)] (fun w_ h_ => reps_more (k26_mkF _ _ (⟨1, ([(⟨0, 0⟩ : S55)]), []⟩ : S26) h_.2.1 h_.1 (Nat.le_refl _) (Kd.F_nil _ _ _)) rfl reps_none) (by simp [maxLen])
     clear O262
     have O265 : Own w w259 [Chunk.nrow k26 26 w.heap.size Sa (.slice Aa kids.length ca) kids, Chunk.view k26 (fun k_ => k_ = g257 ∨ S238 k_) (some ⟨g257, 0, none⟩) (([(⟨1, ([(⟨0, 0⟩ : S55)]), []⟩ : S26)]).length) (([(⟨1, ([(⟨0, 0⟩ : S55)]), []⟩ : S26)]).length) ([(⟨1, ([(⟨0, 0⟩ : S55)]), []⟩ : S26)]), Bk g126 [J 1, .slice A236 (([(⟨0, 0⟩ : S55)]).length) c237, .slice none 0 0] 26, Bk g50 [J 2, .slice none 0 0, .slice Aa kids.length ca] 26, Bk g39 [.string s, J (s.size : Int), J 31, J (s.size : Int)] 44, Bk g2 [J 0, .slice none 0 0, .slice none 0 0] 26] := O263.sel [2, 0, 1, 3, 4, 5] (by decide)
     refine gw_nappend k26 (ys := [(⟨1, ([(⟨0, 0⟩ : S55)]), []⟩ : S26)]) H260 O265 (want_none rfl) rfl (by decide) rfl Tryz.underlying24 gwinfo26 rfl (by decide) (by decide) (H260.ev rfl) (H260.ev rfl) (fun w_ h_ => h_.1) O265.below.size (by omega) ?_
     intro A266 c267 S268 _ w270 H271 O272; clear H260 O263 O265
     have O273 : Own w w270 [Chunk.nrow k26 26 w.heap.size S268 (.slice A266 ((kids ++ [(⟨1, ([(⟨0, 0⟩ : S55)]), []⟩ : S26)]).length) c267) (kids ++ [(⟨1, ([(⟨0, 0⟩ : S55)]), []⟩ : S26)]), Bk g126 [J 1, .slice A236 (([(⟨0, 0⟩ : S55)]).length) c237, .slice none 0 0] 26, Bk g50 [J 2, .slice none 0 0, .slice Aa kids.length ca] 26, Bk g39 [.string s, J (s.size : Int), J 31, J (s.size : Int)] 44, Bk g2 [J 0, .slice none 0 0, .slice none 0 0] 26] := O272
     clear O272
     refine V H271 (op_field (gwfld26_2 _ _) rfl (H271.ev rfl)) ?_
     intro _ H275; clear H271
     refine gw_set 2 H275 O273 rfl (want_none rfl) rfl (op_store1 gwsiz24 rfl (H275.ev rfl) (H275.ev rfl) rfl (blk_at (O273.get 2 rfl) rfl) (blkf (O273.get 2 rfl))) ?_
     intro _ w278 H277 O279; clear H275 O273
     refine wpList_nil ?_
     refine gw_blk ?_
     refine gw_nx ⟨_, ?_, (s.size : Int), 31, (s.size : Int), (kids ++ [(⟨1, ([(⟨0, 0⟩ : S55)]), []⟩ : S26)]), A266, _, _, (H277.pick (t := 2) rfl (H277.pick (t := 3) rfl (H277.pick (t := 4) rfl (H277.pick (t := 5) rfl (H277.pick (t := 6) rfl H277.nil))))), O279.sel [0, 2, 3, 4] (by decide), ?_, ?_, ?_, rfl⟩
     ·
      rw [hm69]; omega
     ·
      omega
     ·
      rw [List.length_append, List.length_singleton]; omega
     ·
      exact .inr ⟨by decide, rfl, 0, hR, by omega⟩
   ·
    subst hc0
    subst hw0
    unfold parB at hR
    obtain ⟨hby, hrr, hp1, hp2⟩ := byte_ok s p 0 x q r hp (by omega) hb1
    refine gw_seq fun K280 hK280 => ?_
    refine gR fun K281 hK281 => ?_
    refine V H67 (op_move rfl (H67.ev rfl)) ?_
    intro _ H283; clear H67
    refine gw_call H283 (want_none rfl) rfl (by decide) (op_callL Tryz.func16 (by kernel_rfl) rfl rfl (ar_cons (H283.ev rfl) ar_nil)) (over_walk g39 s p 0 0 _ (O68.get 2 rfl)) ?_
    rintro e284 w285 ⟨rfl, hb286⟩
    refine ⟨_, rfl, fun _ H288 => ?_⟩
    have O289 := O68.after hb286
    clear H283 O68 hb286
    refine V H288 (op_not rfl (H288.ev rfl)) ?_
    intro _ H292; clear H288
    have H293 := H292.lit (b := true) (by rw [Bool.not_eq_true', decide_eq_false_iff_not]; omega)
    clear H292
    refine gE hK281 ?_
    refine gw_cond H293 rfl (fun hb294 => ?_) (fun hb294 => ?_)
    rotate_left
    ·
     cases hb294
    refine wp_skip ?_
    refine gw_nx (hK280 _ _ ?_)
    refine wp_block ?_
    refine gR fun K295 hK295 => ?_
    refine gw_new H293 O289 (want_none rfl) rfl (by decide) (op_alloc gwzer26 rfl) ?_
    intro g296 _ w298 H299 O300; clear H293 O289
    have O301 : Own w w298 [Bk g296 [J 0, .slice none 0 0, .slice none 0 0] 26, Chunk.nrow k26 26 w.heap.size Sa (.slice Aa kids.length ca) kids, Bk g50 [J 2, .slice none 0 0, .slice Aa kids.length ca] 26, Bk g39 [.string s, J p, J 0, J 0] 44, Bk g2 [J 0, .slice none 0 0, .slice none 0 0] 26] := O300
    clear O300
    refine gE hK295 ?_
    refine gw_seq fun K302 hK302 => ?_
    refine gR fun K303 hK303 => ?_
    refine V H299 (op_move rfl (H299.ev rfl)) ?_
    intro _ H305; clear H299
    refine gw_call H305 (want_none rfl) rfl (by decide) (op_callL Tryz.func17 (by kernel_rfl) rfl rfl (ar_cons (H305.ev rfl) ar_nil)) (byte_calls g39 s s p 0 0 x ((s.size : Int) - r.length) 0 0 q w _ (O301.lt 3 rfl rfl).1 O301.below (O301.get 3 rfl) (hby)) ?_
    rintro e306 w307 ⟨rfl, hb308⟩
    refine ⟨_, rfl, fun _ H310 => ?_⟩
    have O311 := O301.calls 3 rfl hb308
    clear H305 O301 hb308
    refine V H310 (op_move rfl (H310.ev rfl)) ?_
    intro _ H314; clear H310
    refine V H314 (op_extract rfl (H314.ev rfl) rfl) ?_
    intro _ H316; clear H314
    refine V H316 (op_extract rfl (H316.ev rfl) rfl) ?_
    intro _ H318; clear H316
    refine V H318 (op_assign rfl (H318.ev rfl)) ?_
    intro _ H320; clear H318
    refine V H320 (op_assign rfl (H320.ev rfl)) ?_
    intro _ H322; clear H320
    refine gE hK303 ?_
    refine wp_block ?_
    refine gR fun K323 hK323 => ?_
    refine V H322 (op_move rfl (H322.ev rfl)) ?_
    intro _ H325; clear H322
    refine V H325 (op_assign rfl (H325.ev rfl)) ?_
    intro _ H327; clear H325
    refine gE hK323 ?_
    refine gw_cond H327 rfl (fun hb328 => ?_) (fun hb328 => ?_)
    ·
     have H329 := H327.subst_ (d := 28) (b := true) rfl hb328
     clear H327
     (try simp only [Bool.not_eq_true] at hb328)
     rw [if_pos hb328] at hR
     refine wp_region_lit ?_
     refine V H329 (op_move rfl (H329.ev rfl)) ?_
     intro _ H331; clear H329
     refine gw_call H331 (want_none rfl) rfl (by decide) (op_callL Tryz.func18 (by kernel_rfl) rfl rfl (ar_cons (H331.ev rfl) ar_nil)) (one_walk x _) ?_
     rintro e336 w337 ⟨A332, c333, S334, rfl, hb338⟩
     refine ⟨_, rfl, fun _ H340 => ?_⟩
     have O341 := O311.fresh hb338
     clear H331 O311 hb338
     refine gw_setn 1 H340 O341 rfl (want_none rfl) rfl (op_storen gwsiz26 rfl (H340.ev rfl) (H340.ev rfl) (O341.get 1 rfl) rfl (by simp) (by simp [Value.oneCell'])) ?_
     intro _ w345 H344 O346; clear H340 O341
     refine wpList_nil ?_
     refine gw_blk ?_
     refine gw_nx (hK302 _ _ ?_)
     refine wp_region_lit ?_
     refine V H344 (op_field (gwfld26_2 _ _) rfl (H344.ev rfl)) ?_
     intro _ H348; clear H344
     refine V H348 (op_load1 gwagg24 rfl (H348.ev rfl) (blk_at (O346.get 3 rfl) rfl)) ?_
     intro _ H350; clear H348
     refine V H350 (op_loadn gwagg26 gwsiz26 rfl (H350.ev rfl) (O346.get 1 rfl) rfl rfl) ?_
     intro _ H352; clear H350
     refine gw_news (O := .cells #[J 1, .slice A332 (([(⟨x, x⟩ : S55)]).length) c333, .slice none 0 0] 26 (0, 0)) (n := 1) H352 O346 (want_none rfl) rfl (by decide) (op_bslice (by kernel_rfl) rfl (pt_cons (H352.ev rfl) pt_nil)) ?_
     intro g353 _ w355 H356 O357; clear H352 O346
     have O358 : Own w w355 [Bk g353 [J 1, .slice A332 (([(⟨x, x⟩ : S55)]).length) c333, .slice none 0 0] 26, Chunk.view k55 S334 A332 (([(⟨x, x⟩ : S55)]).length) c333 ([(⟨x, x⟩ : S55)]), Bk g296 [J 1, .slice A332 (([(⟨x, x⟩ : S55)]).length) c333, .slice none 0 0] 26, Chunk.nrow k26 26 w.heap.size Sa (.slice Aa kids.length ca) kids, Bk g50 [J 2, .slice none 0 0, .slice Aa kids.length ca] 26, Bk g39 [.string s, J ((s.size : Int) - r.length), J 0, J 0] 44, Bk g2 [J 0, .slice none 0 0, .slice none 0 0] 26] := O357
     clear O357
     have O359 : Own w w355 [Chunk.view k26 (fun k_ => k_ = g353 ∨ S334 k_) (some ⟨g353, 0, none⟩) (([(⟨1, ([(⟨x, x⟩ : S55)]), []⟩ : S26)]).length) (([(⟨1, ([(⟨x, x⟩ : S55)]), []⟩ : S26)]).length) ([(⟨1, ([(⟨x, x⟩ : S55)]), []⟩ : S26)]), Bk g296 [J 1, .slice A332 (([(⟨x, x⟩ : S55)]).length) c333, .slice none 0 0] 26, Chunk.nrow k26 26 w.heap.size Sa (.slice Aa kids.length ca) kids, Bk g50 [J 2, .slice none 0 0, .slice Aa kids.length ca] 26, Bk g39 [.string s, J ((s.size : Int) - r.length), J 0, J 0] 44, Bk g2 [J 0, .slice none 0 0, .slice none 0 0] 26] := Own.lit_view (cs := [J 1, .slice A332 (([(⟨x, x⟩ : S55)]).length) c333, .slice none 0 0]) (O358.sel [0, 1, 2, 3, 4, 5, 6] (by decide)) k26 [(⟨1, ([(⟨x, x⟩ : S55)]), []⟩ : S26)] (fun w_ h_ => reps_more (k26_mkF _ _ (⟨1, ([(⟨x, x⟩ : S55)]), []⟩ : S26) h_.2.1 h_.1 (Nat.le_refl _) (Kd.F_nil _ _ _)) rfl reps_none) (by simp [maxLen])
     clear O358
     have O361 : Own w w355 [Chunk.nrow k26 26 w.heap.size Sa (.slice Aa kids.length ca) kids, Chunk.view k26 (fun k_ => k_ = g353 ∨ S334 k_) (some ⟨g353, 0, none⟩) (([(⟨1, ([(⟨x, x⟩ : S55)]), []⟩ : S26)]).length) (([(⟨1, ([(⟨x, x⟩ : S55)]), []⟩ : S26)]).length) ([(⟨1, ([(⟨x, x⟩ : S55)]), []⟩ : S26)]), Bk g296 [J 1, .slice A332 (([(⟨x, x⟩ : S55)]).length) c333, .slice none 0 0] 26, Bk g50 [J 2, .slice none 0 0, .slice Aa kids.length ca] 26, Bk g39 [.string s, J ((s.size : Int) - r.length), J 0, J 0] 44, Bk g2 [J 0, .slice none 0 0, .slice none 0 0] 26] := O359.sel [2, 0, 1, 3, 4, 5] (by decide)
     refine gw_nappend k26 (ys := [(⟨1, ([(⟨x, x⟩ : S55)]), []⟩ : S26)]) H356 O361 (want_none rfl) rfl (by decide) rfl Tryz.underlying24 gwinfo26 rfl (by decide) (by decide) (H356.ev rfl) (H356.ev rfl) (fun w_ h_ => h_.1) O361.below.size (by omega) ?_
     intro A362 c363 S364 _ w366 H367 O368; clear H356 O359 O361
     have O369 : Own w w366 [Chunk.nrow k26 26 w.heap.size S364 (.slice A362 ((kids ++ [(⟨1, ([(⟨x, x⟩ : S55)]), []⟩ : S26)]).length) c363) (kids ++ [(⟨1, ([(⟨x, x⟩ : S55)]), []⟩ : S26)]), Bk g296 [J 1, .slice A332 (([(⟨x, x⟩ : S55)]).length) c333, .slice none 0 0] 26, Bk g50 [J 2, .slice none 0 0, .slice Aa kids.length ca] 26, Bk g39 [.string s, J ((s.size : Int) - r.length), J 0, J 0] 44, Bk g2 [J 0, .slice none 0 0, .slice none 0 0] 26] := O368
     clear O368
     refine V H367 (op_field (gwfld26_2 _ _) rfl (H367.ev rfl)) ?_
     intro _ H371; clear H367
     refine gw_set 2 H371 O369 rfl (want_none rfl) rfl (op_store1 gwsiz24 rfl (H371.ev rfl) (H371.ev rfl) rfl (blk_at (O369.get 2 rfl) rfl) (blkf (O369.get 2 rfl))) ?_
     intro _ w374 H373 O375; clear H371 O369
     refine wpList_nil ?_
     refine gw_blk ?_
     refine gw_nx ⟨_, ?_, ((s.size : Int) - r.length), 0, 0, (kids ++ [(⟨1, ([(⟨x, x⟩ : S55)]), []⟩ : S26)]), A362, _, _, (H373.pick (t := 2) rfl (H373.pick (t := 3) rfl (H373.pick (t := 4) rfl (H373.pick (t := 5) rfl (H373.pick (t := 6) rfl H373.nil))))), O375.sel [0, 2, 3, 4] (by decide), ?_, ?_, ?_, rfl⟩
     ·
      rw [hm69]; omega
     ·
      omega
     ·
      rw [List.length_append, List.length_singleton]; omega
     ·
      exact .inl ⟨rfl, rfl, k, by rw [hrr]; exact hk, by rw [hrr]; exact hR.symm⟩
    ·
     have H376 := H327.subst_ (d := 28) (b := false) rfl hb328
     clear H327
     (try simp only [Bool.not_eq_true] at hb328)
     rw [if_neg (by rw [hb328]; simp)] at hR
     refine gR fun K377 hK377 => ?_
     refine V H376 (op_move rfl (H376.ev rfl)) ?_
     intro _ H379; clear H376
     refine V H379 (op_eqi rfl (H379.ev rfl) (ev_c _ _)) ?_
     intro _ H381; clear H379
     refine V H381 (op_assign rfl (H381.ev rfl)) ?_
     intro _ H383; clear H381
     refine gE hK377 ?_
     refine gw_cond H383 rfl (fun hb384 => ?_) (fun hb384 => ?_)
     ·
      have H385 := H383.subst_ (d := 32) (b := true) rfl hb384
      clear H383
      (try simp only [decide_eq_true_eq] at hb384)
      rw [if_pos (by assumption)] at hR
      refine wp_region_lit ?_
      refine gw_call H385 (want_none rfl) rfl (by decide) (op_callL Tryz.func19 (by kernel_rfl) rfl rfl ar_nil) (anything_walk _) ?_
      rintro e390 w391 ⟨A386, c387, S388, rfl, hb392⟩
      refine ⟨_, rfl, fun _ H394 => ?_⟩
      have O395 := O311.fresh hb392
      clear H385 O311 hb392
      refine V H394 (op_build (cells := #[J 1, .slice A386 (([(⟨0, 255⟩ : S55)]).length) c387, .slice none 0 0]) rfl (pt_cons (ev_c _ _) (pt_cons (H394.ev rfl) pt_nil)) (by kernel_rfl)) ?_
      intro _ H398; clear H394
      refine gw_setn 1 H398 O395 rfl (want_none rfl) rfl (op_storen gwsiz26 rfl (H398.ev rfl) (H398.ev rfl) (O395.get 1 rfl) rfl (by simp) (by simp [Value.oneCell'])) ?_
      intro _ w401 H400 O402; clear H398 O395
      refine wpList_nil ?_
      refine gw_blk ?_
      refine gw_nx (hK302 _ _ ?_)
      refine wp_region_lit ?_
      refine V H400 (op_field (gwfld26_2 _ _) rfl (H400.ev rfl)) ?_
      intro _ H404; clear H400
      refine V H404 (op_load1 gwagg24 rfl (H404.ev rfl) (blk_at (O402.get 3 rfl) rfl)) ?_
      intro _ H406; clear H404
      refine V H406 (op_loadn gwagg26 gwsiz26 rfl (H406.ev rfl) (O402.get 1 rfl) rfl rfl) ?_
      intro _ H408; clear H406
      refine gw_news (O := .cells #[J 1, .slice A386 (([(⟨0, 255⟩ : S55)]).length) c387, .slice none 0 0] 26 (0, 0)) (n := 1) H408 O402 (want_none rfl) rfl (by decide) (op_bslice (by kernel_rfl) rfl (pt_cons (H408.ev rfl) pt_nil)) ?_
      intro g409 _ w411 H412 O413; clear H408 O402
      have O414 : Own w w411 [Bk g409 [J 1, .slice A386 (([(⟨0, 255⟩ : S55)]).length) c387, .slice none 0 0] 26, Chunk.view k55 S388 A386 (([(⟨0, 255⟩ : S55)]).length) c387 ([(⟨0, 255⟩ : S55)]), Bk g296 [J 1, .slice A386 (([(⟨0, 255⟩ : S55)]).length) c387, .slice none 0 0] 26, Chunk.nrow k26 26 w.heap.size Sa (.slice Aa kids.length ca) kids, Bk g50 [J 2, .slice none 0 0, .slice Aa kids.length ca] 26, Bk g39 [.string s, J ((s.size : Int) - r.length), J 0, J 0] 44, Bk g2 [J 0, .slice none 0 0, .slice none 0 0] 26] := O413
      clear O413
      have O415 : Own w w411 [Chunk.view k26 (fun k_ => k_ = g409 ∨ S388 k_) (some ⟨g409, 0, none⟩) (([(⟨1, ([(⟨0, 255⟩ : S55)]), []⟩ : S26)]).length) (([(⟨1, ([(⟨0, 255⟩ : S55)]), []⟩ : S26)]).length) ([(⟨1, ([(⟨0, 255⟩ : S55)]), []⟩ : S26)]), Bk g296 [J 1, .slice A386 (([(⟨0, 255⟩ : S55)]).length) c387, .slice none 0 0] 26, Chunk.nrow k26 26 w.heap.size Sa (.slice Aa kids.length ca) kids, Bk g50 [J 2, .slice none 0 0, .slice Aa kids.length ca] 26, Bk g39 [.string s, J ((s.size : Int) - r.length), J 0, J 0] 44, Bk g2 [J 0, .slice none 0 0, .slice none 0 0] 26] := Own.lit_view (cs := [J 1, .slice A386 (([(⟨0, 255⟩ : S55)]).length) c387, .slice none 0 0]) (O414.sel [0, 1, 2, 3, 4, 5, 6] (by decide)) k26 [(⟨1, ([(⟨0, 255⟩ : S55)]), []⟩ : S26)] (fun w_ h_ => reps_more (k26_mkF _ _ (⟨1, ([(⟨0, 255⟩ : S55)]), []⟩ : S26) h_.2.1 h_.1 (Nat.le_refl _) (Kd.F_nil _ _ _)) rfl reps_none) (by simp [maxLen])
      clear O414
      have O417 : Own w w411 [Chunk.nrow k26 26 w.heap.size Sa (.slice Aa kids.length ca) kids, Chunk.view k26 (fun k_ => k_ = g409 ∨ S388 k_) (some ⟨g409, 0, none⟩) (([(⟨1, ([(⟨0, 255⟩ : S55)]), []⟩ : S26)]).length) (([(⟨1, ([(⟨0, 255⟩ : S55)]), []⟩ : S26)]).length) ([(⟨1, ([(⟨0, 255⟩ : S55)]), []⟩ : S26)]), Bk g296 [J 1, .slice A386 (([(⟨0, 255⟩ : S55)]).length) c387, .slice none 0 0] 26, Bk g50 [J 2, .slice none 0 0, .slice Aa kids.length ca] 26, Bk g39 [.string s, J ((s.size : Int) - r.length), J 0, J 0] 44, Bk g2 [J 0, .slice none 0 0, .slice none 0 0] 26] := O415.sel [2, 0, 1, 3, 4, 5] (by decide)
      refine gw_nappend k26 (ys := [(⟨1, ([(⟨0, 255⟩ : S55)]), []⟩ : S26)]) H412 O417 (want_none rfl) rfl (by decide) rfl Tryz.underlying24 gwinfo26 rfl (by decide) (by decide) (H412.ev rfl) (H412.ev rfl) (fun w_ h_ => h_.1) O417.below.size (by omega) ?_
      intro A418 c419 S420 _ w422 H423 O424; clear H412 O415 O417
      have O425 : Own w w422 [Chunk.nrow k26 26 w.heap.size S420 (.slice A418 ((kids ++ [(⟨1, ([(⟨0, 255⟩ : S55)]), []⟩ : S26)]).length) c419) (kids ++ [(⟨1, ([(⟨0, 255⟩ : S55)]), []⟩ : S26)]), Bk g296 [J 1, .slice A386 (([(⟨0, 255⟩ : S55)]).length) c387, .slice none 0 0] 26, Bk g50 [J 2, .slice none 0 0, .slice Aa kids.length ca] 26, Bk g39 [.string s, J ((s.size : Int) - r.length), J 0, J 0] 44, Bk g2 [J 0, .slice none 0 0, .slice none 0 0] 26] := O424
      clear O424
      refine V H423 (op_field (gwfld26_2 _ _) rfl (H423.ev rfl)) ?_
      intro _ H427; clear H423
      refine gw_set 2 H427 O425 rfl (want_none rfl) rfl (op_store1 gwsiz24 rfl (H427.ev rfl) (H427.ev rfl) rfl (blk_at (O425.get 2 rfl) rfl) (blkf (O425.get 2 rfl))) ?_
      intro _ w430 H429 O431; clear H427 O425
      refine wpList_nil ?_
      refine gw_blk ?_
      refine gw_nx ⟨_, ?_, ((s.size : Int) - r.length), 0, 0, (kids ++ [(⟨1, ([(⟨0, 255⟩ : S55)]), []⟩ : S26)]), A418, _, _, (H429.pick (t := 2) rfl (H429.pick (t := 3) rfl (H429.pick (t := 4) rfl (H429.pick (t := 5) rfl (H429.pick (t := 6) rfl H429.nil))))), O431.sel [0, 2, 3, 4] (by decide), ?_, ?_, ?_, rfl⟩
      ·
       rw [hm69]; omega
      ·
       omega
      ·
       rw [List.length_append, List.length_singleton]; omega
      ·
       exact .inl ⟨rfl, rfl, k, by rw [hrr]; exact hk, by rw [hrr]; exact hR.symm⟩
     ·
      have H432 := H383.subst_ (d := 32) (b := false) rfl hb384
      clear H383
      (try simp only [decide_eq_false_iff_not] at hb384)
      rw [if_neg (by assumption)] at hR
      refine gR fun K433 hK433 => ?_
      refine V H432 (op_move rfl (H432.ev rfl)) ?_
      intro _ H435; clear H432
      refine V H435 (op_eqi rfl (H435.ev rfl) (ev_c _ _)) ?_
      intro _ H437; clear H435
      refine V H437 (op_assign rfl (H437.ev rfl)) ?_
      intro _ H439; clear H437
      refine gE hK433 ?_
      refine gw_cond H439 rfl (fun hb440 => ?_) (fun hb440 => ?_)
      ·
       have H441 := H439.subst_ (d := 37) (b := true) rfl hb440
       clear H439
       (try simp only [decide_eq_true_eq] at hb440)
       rw [if_pos (by assumption)] at hR
       refine wp_region_lit ?_
       refine gw_call H441 (want_none rfl) rfl (by decide) (op_callL Tryz.func19 (by kernel_rfl) rfl rfl ar_nil) (anything_walk _) ?_
       rintro e446 w447 ⟨A442, c443, S444, rfl, hb448⟩
       refine ⟨_, rfl, fun _ H450 => ?_⟩
       have O451 := O311.fresh hb448
       clear H441 O311 hb448
       refine V H450 (op_build (cells := #[J 1, .slice A442 (([(⟨0, 255⟩ : S55)]).length) c443, .slice none 0 0]) rfl (pt_cons (ev_c _ _) (pt_cons (H450.ev rfl) pt_nil)) (by kernel_rfl)) ?_
       intro _ H454; clear H450
       refine gw_news (O := .cells #[J 1, .slice A442 (([(⟨0, 255⟩ : S55)]).length) c443, .slice none 0 0] 26 (0, 0)) (n := 1) H454 O451 (want_none rfl) rfl (by decide) (op_bslice (by kernel_rfl) rfl (pt_cons (H454.ev rfl) pt_nil)) ?_
       intro g455 _ w457 H458 O459; clear H454 O451
       have O460 : Own w w457 [Bk g455 [J 1, .slice A442 (([(⟨0, 255⟩ : S55)]).length) c443, .slice none 0 0] 26, Chunk.view k55 S444 A442 (([(⟨0, 255⟩ : S55)]).length) c443 ([(⟨0, 255⟩ : S55)]), Bk g296 [J 0, .slice none 0 0, .slice none 0 0] 26, Chunk.nrow k26 26 w.heap.size Sa (.slice Aa kids.length ca) kids, Bk g50 [J 2, .slice none 0 0, .slice Aa kids.length ca] 26, Bk g39 [.string s, J ((s.size : Int) - r.length), J 0, J 0] 44, Bk g2 [J 0, .slice none 0 0, .slice none 0 0] 26] := O459
       clear O459
       have O461 : Own w w457 [Chunk.view k26 (fun k_ => k_ = g455 ∨ S444 k_) (some ⟨g455, 0, none⟩) (([(⟨1, ([(⟨0, 255⟩ : S55)]), []⟩ : S26)]).length) (([(⟨1, ([(⟨0, 255⟩ : S55)]), []⟩ : S26)]).length) ([(⟨1, ([(⟨0, 255⟩ : S55)]), []⟩ : S26)]), Bk g296 [J 0, .slice none 0 0, .slice none 0 0] 26, Chunk.nrow k26 26 w.heap.size Sa (.slice Aa kids.length ca) kids, Bk g50 [J 2, .slice none 0 0, .slice Aa kids.length ca] 26, Bk g39 [.string s, J ((s.size : Int) - r.length), J 0, J 0] 44, Bk g2 [J 0, .slice none 0 0, .slice none 0 0] 26] := Own.lit_view (cs := [J 1, .slice A442 (([(⟨0, 255⟩ : S55)]).length) c443, .slice none 0 0]) (O460.sel [0, 1, 2, 3, 4, 5, 6] (by decide)) k26 [(⟨1, ([(⟨0, 255⟩ : S55)]), []⟩ : S26)] (fun w_ h_ => reps_more (k26_mkF _ _ (⟨1, ([(⟨0, 255⟩ : S55)]), []⟩ : S26) h_.2.1 h_.1 (Nat.le_refl _) (Kd.F_nil _ _ _)) rfl reps_none) (by simp [maxLen])
       clear O460
       refine V H458 (op_build (cells := #[J 4, .slice none 0 0, .slice (some ⟨g455, 0, none⟩) (([(⟨1, ([(⟨0, 255⟩ : S55)]), []⟩ : S26)]).length) (([(⟨1, ([(⟨0, 255⟩ : S55)]), []⟩ : S26)]).length)]) rfl (pt_cons (ev_c _ _) (pt_cons (H458.ev rfl) pt_nil)) (by kernel_rfl)) ?_
       intro _ H464; clear H458
       refine gw_setn 1 H464 O461 rfl (want_none rfl) rfl (op_storen gwsiz26 rfl (H464.ev rfl) (H464.ev rfl) (O461.get 1 rfl) rfl (by simp) (by simp [Value.oneCell'])) ?_
       intro _ w467 H466 O468; clear H464 O461
       refine wpList_nil ?_
       refine gw_blk ?_
       refine gw_nx (hK302 _ _ ?_)
       refine wp_region_lit ?_
       refine V H466 (op_field (gwfld26_2 _ _) rfl (H466.ev rfl)) ?_
       intro _ H470; clear H466
       refine V H470 (op_load1 gwagg24 rfl (H470.ev rfl) (blk_at (O468.get 3 rfl) rfl)) ?_
       intro _ H472; clear H470
       refine V H472 (op_loadn gwagg26 gwsiz26 rfl (H472.ev rfl) (O468.get 1 rfl) rfl rfl) ?_
       intro _ H474; clear H472
       refine gw_news (O := .cells #[J 4, .slice none 0 0, .slice (some ⟨g455, 0, none⟩) (([(⟨1, ([(⟨0, 255⟩ : S55)]), []⟩ : S26)]).length) (([(⟨1, ([(⟨0, 255⟩ : S55)]), []⟩ : S26)]).length)] 26 (0, 0)) (n := 1) H474 O468 (want_none rfl) rfl (by decide) (op_bslice (by kernel_rfl) rfl (pt_cons (H474.ev rfl) pt_nil)) ?_
       intro g475 _ w477 H478 O479; clear H474 O468
       have O480 : Own w w477 [Bk g475 [J 4, .slice none 0 0, .slice (some ⟨g455, 0, none⟩) (([(⟨1, ([(⟨0, 255⟩ : S55)]), []⟩ : S26)]).length) (([(⟨1, ([(⟨0, 255⟩ : S55)]), []⟩ : S26)]).length)] 26, Chunk.view k26 (fun k_ => k_ = g455 ∨ S444 k_) (some ⟨g455, 0, none⟩) (([(⟨1, ([(⟨0, 255⟩ : S55)]), []⟩ : S26)]).length) (([(⟨1, ([(⟨0, 255⟩ : S55)]), []⟩ : S26)]).length) ([(⟨1, ([(⟨0, 255⟩ : S55)]), []⟩ : S26)]), Bk g296 [J 4, .slice none 0 0, .slice (some ⟨g455, 0, none⟩) (([(⟨1, ([(⟨0, 255⟩ : S55)]), []⟩ : S26)]).length) (([(⟨1, ([(⟨0, 255⟩ : S55)]), []⟩ : S26)]).length)] 26, Chunk.nrow k26 26 w.heap.size Sa (.slice Aa kids.length ca) kids, Bk g50 [J 2, .slice none 0 0, .slice Aa kids.length ca] 26, Bk g39 [.string s, J ((s.size : Int) - r.length), J 0, J 0] 44, Bk g2 [J 0, .slice none 0 0, .slice none 0 0] 26] := O479
       clear O479
       have O481 : Own w w477 [Chunk.view k26 (fun k_ => k_ = g475 ∨ (fun k_ => k_ = g455 ∨ S444 k_) k_) (some ⟨g475, 0, none⟩) (([(⟨4, [], [(⟨1, ([(⟨0, 255⟩ : S55)]), []⟩ : S26)]⟩ : S26)]).length) (([(⟨4, [], [(⟨1, ([(⟨0, 255⟩ : S55)]), []⟩ : S26)]⟩ : S26)]).length) ([(⟨4, [], [(⟨1, ([(⟨0, 255⟩ : S55)]), []⟩ : S26)]⟩ : S26)]), Bk g296 [J 4, .slice none 0 0, .slice (some ⟨g455, 0, none⟩) (([(⟨1, ([(⟨0, 255⟩ : S55)]), []⟩ : S26)]).length) (([(⟨1, ([(⟨0, 255⟩ : S55)]), []⟩ : S26)]).length)] 26, Chunk.nrow k26 26 w.heap.size Sa (.slice Aa kids.length ca) kids, Bk g50 [J 2, .slice none 0 0, .slice Aa kids.length ca] 26, Bk g39 [.string s, J ((s.size : Int) - r.length), J 0, J 0] 44, Bk g2 [J 0, .slice none 0 0, .slice none 0 0] 26] := Own.lit_view (cs := [J 4, .slice none 0 0, .slice (some ⟨g455, 0, none⟩) (([(⟨1, ([(⟨0, 255⟩ : S55)]), []⟩ : S26)]).length) (([(⟨1, ([(⟨0, 255⟩ : S55)]), []⟩ : S26)]).length)]) (O480.sel [0, 1, 2, 3, 4, 5, 6] (by decide)) k26 [(⟨4, [], [(⟨1, ([(⟨0, 255⟩ : S55)]), []⟩ : S26)]⟩ : S26)] (fun w_ h_ => reps_more (k26_mkF _ _ (⟨4, [], [(⟨1, ([(⟨0, 255⟩ : S55)]), []⟩ : S26)]⟩ : S26) (Nat.le_refl _) (Kd.F_nil _ _ _) h_.2.1 h_.1) rfl reps_none) (by simp [maxLen])
       clear O480
       have O483 : Own w w477 [Chunk.nrow k26 26 w.heap.size Sa (.slice Aa kids.length ca) kids, Chunk.view k26 (fun k_ => k_ = g475 ∨ (fun k_ => k_ = g455 ∨ S444 k_) k_) (some ⟨g475, 0, none⟩) (([(⟨4, [], [(⟨1, ([(⟨0, 255⟩ : S55)]), []⟩ : S26)]⟩ : S26)]).length) (([(⟨4, [], [(⟨1, ([(⟨0, 255⟩ : S55)]), []⟩ : S26)]⟩ : S26)]).length) ([(⟨4, [], [(⟨1, ([(⟨0, 255⟩ : S55)]), []⟩ : S26)]⟩ : S26)]), Bk g296 [J 4, .slice none 0 0, .slice (some ⟨g455, 0, none⟩) (([(⟨1, ([(⟨0, 255⟩ : S55)]), []⟩ : S26)]).length) (([(⟨1, ([(⟨0, 255⟩ : S55)]), []⟩ : S26)]).length)] 26, Bk g50 [J 2, .slice none 0 0, .slice Aa kids.length ca] 26, Bk g39 [.string s, J ((s.size : Int) - r.length), J 0, J 0] 44, Bk g2 [J 0, .slice none 0 0, .slice none 0 0] 26] := O481.sel [2, 0, 1, 3, 4, 5] (by decide)
       refine gw_nappend k26 (ys := [(⟨4, [], [(⟨1, ([(⟨0, 255⟩ : S55)]), []⟩ : S26)]⟩ : S26)]) H478 O483 (want_none rfl) rfl (by decide) rfl Tryz.underlying24 gwinfo26 rfl (by decide) (by decide) (H478.ev rfl) (H478.ev rfl) (fun w_ h_ => h_.1) O483.below.size (by omega) ?_
       intro A484 c485 S486 _ w488 H489 O490; clear H478 O481 O483
       have O491 : Own w w488 [Chunk.nrow k26 26 w.heap.size S486 (.slice A484 ((kids ++ [(⟨4, [], [(⟨1, ([(⟨0, 255⟩ : S55)]), []⟩ : S26)]⟩ : S26)]).length) c485) (kids ++ [(⟨4, [], [(⟨1, ([(⟨0, 255⟩ : S55)]), []⟩ : S26)]⟩ : S26)]), Bk g296 [J 4, .slice none 0 0, .slice (some ⟨g455, 0, none⟩) (([(⟨1, ([(⟨0, 255⟩ : S55)]), []⟩ : S26)]).length) (([(⟨1, ([(⟨0, 255⟩ : S55)]), []⟩ : S26)]).length)] 26, Bk g50 [J 2, .slice none 0 0, .slice Aa kids.length ca] 26, Bk g39 [.string s, J ((s.size : Int) - r.length), J 0, J 0] 44, Bk g2 [J 0, .slice none 0 0, .slice none 0 0] 26] := O490
       clear O490
       refine V H489 (op_field (gwfld26_2 _ _) rfl (H489.ev rfl)) ?_
       intro _ H493; clear H489
       refine gw_set 2 H493 O491 rfl (want_none rfl) rfl (op_store1 gwsiz24 rfl (H493.ev rfl) (H493.ev rfl) rfl (blk_at (O491.get 2 rfl) rfl) (blkf (O491.get 2 rfl))) ?_
       intro _ w496 H495 O497; clear H493 O491
       refine wpList_nil ?_
       refine gw_blk ?_
       refine gw_nx ⟨_, ?_, ((s.size : Int) - r.length), 0, 0, (kids ++ [(⟨4, [], [(⟨1, ([(⟨0, 255⟩ : S55)]), []⟩ : S26)]⟩ : S26)]), A484, _, _, (H495.pick (t := 2) rfl (H495.pick (t := 3) rfl (H495.pick (t := 4) rfl (H495.pick (t := 5) rfl (H495.pick (t := 6) rfl H495.nil))))), O497.sel [0, 2, 3, 4] (by decide), ?_, ?_, ?_, rfl⟩
       ·
        rw [hm69]; omega
       ·
        omega
       ·
        rw [List.length_append, List.length_singleton]; omega
       ·
        exact .inl ⟨rfl, rfl, k, by rw [hrr]; exact hk, by rw [hrr]; exact hR.symm⟩
      ·
       have H498 := H439.subst_ (d := 37) (b := false) rfl hb440
       clear H439
       (try simp only [decide_eq_false_iff_not] at hb440)
       rw [if_neg (by assumption)] at hR
       refine gR fun K499 hK499 => ?_
       refine V H498 (op_move rfl (H498.ev rfl)) ?_
       intro _ H501; clear H498
       refine V H501 (op_eqi rfl (H501.ev rfl) (ev_c _ _)) ?_
       intro _ H503; clear H501
       refine V H503 (op_assign rfl (H503.ev rfl)) ?_
       intro _ H505; clear H503
       refine gE hK499 ?_
       refine gw_cond H505 rfl (fun hb506 => ?_) (fun hb506 => ?_)
       ·
        have H507 := H505.subst_ (d := 44) (b := true) rfl hb506
        clear H505
        (try simp only [decide_eq_true_eq] at hb506)
        rw [if_pos (by assumption)] at hR
        refine wp_region_lit ?_
        refine V H507 (op_move rfl (H507.ev rfl)) ?_
        intro _ H509; clear H507
        have O527 : Own w _ [(Chunk.all [Bk g296 [J 0, .slice none 0 0, .slice none 0 0] 26, Chunk.nrow k26 26 w.heap.size Sa (.slice Aa kids.length ca) kids, Bk g50 [J 2, .slice none 0 0, .slice Aa kids.length ca] 26, Bk g2 [J 0, .slice none 0 0, .slice none 0 0] 26]), Bk g39 [.string s, J ((s.size : Int) - r.length), J 0, J 0] 44] := Own.bundle (O311.sel [0, 1, 2, 4, 3] (by decide))
        refine gw_call H509 (want_none rfl) rfl (by decide) (op_callL Tryz.func20 (by kernel_rfl) rfl rfl (ar_cons (H509.ev rfl) ar_nil)) (class_fork w _ (Chunk.all [Bk g296 [J 0, .slice none 0 0, .slice none 0 0] 26, Chunk.nrow k26 26 w.heap.size Sa (.slice Aa kids.length ca) kids, Bk g50 [J 2, .slice none 0 0, .slice Aa kids.length ca] 26, Bk g2 [J 0, .slice none 0 0, .slice none 0 0] 26]) g39 s ((s.size : Int) - r.length) 0 (by omega) (by omega) (by exact O527)) ?_
        rintro e521 w522 (⟨rs511, nt512, r2513, A514, c515, S516, hT, hrr2, hp3, hp4, rfl, hb523⟩ | ⟨e2517, m510, L518, A514, c515, S516, hT, he0, rfl, hb523⟩)
        ·
         refine ⟨_, rfl, fun _ H525 => ?_⟩
         have O526 : Own w w522 [Bk g296 [J 0, .slice none 0 0, .slice none 0 0] 26, Chunk.nrow k26 26 w.heap.size Sa (.slice Aa kids.length ca) kids, Bk g50 [J 2, .slice none 0 0, .slice Aa kids.length ca] 26, Bk g2 [J 0, .slice none 0 0, .slice none 0 0] 26, Bk g39 [.string s, J ((s.size : Int) - r2513.length), J 0, J 0] 44, Chunk.view k55 S516 A514 (((canonP fun c_ => inR rs511 c_ != nt512)).length) c515 (canonP fun c_ => inR rs511 c_ != nt512)] := Own.unbundle (A := [Bk g296 [J 0, .slice none 0 0, .slice none 0 0] 26, Chunk.nrow k26 26 w.heap.size Sa (.slice Aa kids.length ca) kids, Bk g50 [J 2, .slice none 0 0, .slice Aa kids.length ca] 26, Bk g2 [J 0, .slice none 0 0, .slice none 0 0] 26]) (L := [Bk g39 [.string s, J ((s.size : Int) - r2513.length), J 0, J 0] 44, Chunk.view k55 S516 A514 (((canonP fun c_ => inR rs511 c_ != nt512)).length) c515 (canonP fun c_ => inR rs511 c_ != nt512)]) hb523
         clear O527 hb523
         clear H509 O311
         rw [← hrr, hT] at hR
         simp only at hR
         refine gw_setn 0 H525 O526 rfl (want_none rfl) rfl (op_storen gwsiz26 rfl (H525.ev rfl) (H525.ev rfl) (O526.get 0 rfl) rfl (by simp) (by simp [Value.oneCell'])) ?_
         intro _ w530 H529 O531; clear H525 O526
         refine wpList_nil ?_
         refine gw_blk ?_
         refine gw_nx (hK302 _ _ ?_)
         refine wp_region_lit ?_
         refine V H529 (op_field (gwfld26_2 _ _) rfl (H529.ev rfl)) ?_
         intro _ H533; clear H529
         refine V H533 (op_load1 gwagg24 rfl (H533.ev rfl) (blk_at (O531.get 2 rfl) rfl)) ?_
         intro _ H535; clear H533
         refine V H535 (op_loadn gwagg26 gwsiz26 rfl (H535.ev rfl) (O531.get 0 rfl) rfl rfl) ?_
         intro _ H537; clear H535
         refine gw_news (O := .cells #[J 1, .slice A514 (((canonP fun c_ => inR rs511 c_ != nt512)).length) c515, .slice none 0 0] 26 (0, 0)) (n := 1) H537 O531 (want_none rfl) rfl (by decide) (op_bslice (by kernel_rfl) rfl (pt_cons (H537.ev rfl) pt_nil)) ?_
         intro g538 _ w540 H541 O542; clear H537 O531
         have O543 : Own w w540 [Bk g538 [J 1, .slice A514 (((canonP fun c_ => inR rs511 c_ != nt512)).length) c515, .slice none 0 0] 26, Bk g296 [J 1, .slice A514 (((canonP fun c_ => inR rs511 c_ != nt512)).length) c515, .slice none 0 0] 26, Chunk.nrow k26 26 w.heap.size Sa (.slice Aa kids.length ca) kids, Bk g50 [J 2, .slice none 0 0, .slice Aa kids.length ca] 26, Bk g2 [J 0, .slice none 0 0, .slice none 0 0] 26, Bk g39 [.string s, J ((s.size : Int) - r2513.length), J 0, J 0] 44, Chunk.view k55 S516 A514 (((canonP fun c_ => inR rs511 c_ != nt512)).length) c515 (canonP fun c_ => inR rs511 c_ != nt512)] := O542
         clear O542
         have O544 : Own w w540 [Chunk.view k26 (fun k_ => k_ = g538 ∨ S516 k_) (some ⟨g538, 0, none⟩) (([(⟨1, (canonP fun c_ => inR rs511 c_ != nt512), []⟩ : S26)]).length) (([(⟨1, (canonP fun c_ => inR rs511 c_ != nt512), []⟩ : S26)]).length) ([(⟨1, (canonP fun c_ => inR rs511 c_ != nt512), []⟩ : S26)]), Bk g296 [J 1, .slice A514 (((canonP fun c_ => inR rs511 c_ != nt512)).length) c515, .slice none 0 0] 26, Chunk.nrow k26 26 w.heap.size Sa (.slice Aa kids.length ca) kids, Bk g50 [J 2, .slice none 0 0, .slice Aa kids.length ca] 26, Bk g2 [J 0, .slice none 0 0, .slice none 0 0] 26, Bk g39 [.string s, J ((s.size : Int) - r2513.length), J 0, J 0] 44] := Own.lit_view (cs := [J 1, .slice A514 (((canonP fun c_ => inR rs511 c_ != nt512)).length) c515, .slice none 0 0]) (O543.sel [0, 6, 1, 2, 3, 4, 5] (by decide)) k26 [(⟨1, (canonP fun c_ => inR rs511 c_ != nt512), []⟩ : S26)] (fun w_ h_ => reps_more (k26_mkF _ _ (⟨1, (canonP fun c_ => inR rs511 c_ != nt512), []⟩ : S26) h_.2.1 h_.1 (Nat.le_refl _) (Kd.F_nil _ _ _)) rfl reps_none) (by simp [maxLen])
         clear O543
         have O546 : Own w w540 [Chunk.nrow k26 26 w.heap.size Sa (.slice Aa kids.length ca) kids, Chunk.view k26 (fun k_ => k_ = g538 ∨ S516 k_) (some ⟨g538, 0, none⟩) (([(⟨1, (canonP fun c_ => inR rs511 c_ != nt512), []⟩ : S26)]).length) (([(⟨1, (canonP fun c_ => inR rs511 c_ != nt512), []⟩ : S26)]).length) ([(⟨1, (canonP fun c_ => inR rs511 c_ != nt512), []⟩ : S26)]), Bk g296 [J 1, .slice A514 (((canonP fun c_ => inR rs511 c_ != nt512)).length) c515, .slice none 0 0] 26, Bk g50 [J 2, .slice none 0 0, .slice Aa kids.length ca] 26, Bk g2 [J 0, .slice none 0 0, .slice none 0 0] 26, Bk g39 [.string s, J ((s.size : Int) - r2513.length), J 0, J 0] 44] := O544.sel [2, 0, 1, 3, 4, 5] (by decide)
         refine gw_nappend k26 (ys := [(⟨1, (canonP fun c_ => inR rs511 c_ != nt512), []⟩ : S26)]) H541 O546 (want_none rfl) rfl (by decide) rfl Tryz.underlying24 gwinfo26 rfl (by decide) (by decide) (H541.ev rfl) (H541.ev rfl) (fun w_ h_ => h_.1) O546.below.size (by omega) ?_
         intro A547 c548 S549 _ w551 H552 O553; clear H541 O544 O546
         have O554 : Own w w551 [Chunk.nrow k26 26 w.heap.size S549 (.slice A547 ((kids ++ [(⟨1, (canonP fun c_ => inR rs511 c_ != nt512), []⟩ : S26)]).length) c548) (kids ++ [(⟨1, (canonP fun c_ => inR rs511 c_ != nt512), []⟩ : S26)]), Bk g296 [J 1, .slice A514 (((canonP fun c_ => inR rs511 c_ != nt512)).length) c515, .slice none 0 0] 26, Bk g50 [J 2, .slice none 0 0, .slice Aa kids.length ca] 26, Bk g2 [J 0, .slice none 0 0, .slice none 0 0] 26, Bk g39 [.string s, J ((s.size : Int) - r2513.length), J 0, J 0] 44] := O553
         clear O553
         refine V H552 (op_field (gwfld26_2 _ _) rfl (H552.ev rfl)) ?_
         intro _ H556; clear H552
         refine gw_set 2 H556 O554 rfl (want_none rfl) rfl (op_store1 gwsiz24 rfl (H556.ev rfl) (H556.ev rfl) rfl (blk_at (O554.get 2 rfl) rfl) (blkf (O554.get 2 rfl))) ?_
         intro _ w559 H558 O560; clear H556 O554
         refine wpList_nil ?_
         refine gw_blk ?_
         refine gw_nx ⟨_, ?_, ((s.size : Int) - r2513.length), 0, 0, (kids ++ [(⟨1, (canonP fun c_ => inR rs511 c_ != nt512), []⟩ : S26)]), A547, _, _, (H558.pick (t := 2) rfl (H558.pick (t := 3) rfl (H558.pick (t := 4) rfl (H558.pick (t := 5) rfl (H558.pick (t := 6) rfl H558.nil))))), O560.sel [0, 2, 4, 3] (by decide), ?_, ?_, ?_, rfl⟩
         ·
          rw [hm69]; omega
         ·
          omega
         ·
          rw [List.length_append, List.length_singleton]; omega
         ·
          exact .inl ⟨rfl, rfl, k, by rw [hrr2]; (have h_ := rest_len s ((s.size : Int) - r.length) (by omega); rw [hrr] at h_; omega), by rw [hrr2]; exact hR.symm⟩
        ·
         refine ⟨_, rfl, fun _ H525 => ?_⟩
         have O526 : Own w w522 [Bk g296 [J 0, .slice none 0 0, .slice none 0 0] 26, Chunk.nrow k26 26 w.heap.size Sa (.slice Aa kids.length ca) kids, Bk g50 [J 2, .slice none 0 0, .slice Aa kids.length ca] 26, Bk g2 [J 0, .slice none 0 0, .slice none 0 0] 26, Bk g39 [.string s, J (s.size : Int), J e2517, J ((s.size : Int) - (m510 : Nat))] 44, Chunk.view k55 S516 A514 ((L518).length) c515 L518] := Own.unbundle (A := [Bk g296 [J 0, .slice none 0 0, .slice none 0 0] 26, Chunk.nrow k26 26 w.heap.size Sa (.slice Aa kids.length ca) kids, Bk g50 [J 2, .slice none 0 0, .slice Aa kids.length ca] 26, Bk g2 [J 0, .slice none 0 0, .slice none 0 0] 26]) (L := [Bk g39 [.string s, J (s.size : Int), J e2517, J ((s.size : Int) - (m510 : Nat))] 44, Chunk.view k55 S516 A514 ((L518).length) c515 L518]) hb523
         clear O527 hb523
         clear H509 O311
         rw [← hrr, hT] at hR
         simp only at hR
         refine gw_setn 0 H525 O526 rfl (want_none rfl) rfl (op_storen gwsiz26 rfl (H525.ev rfl) (H525.ev rfl) (O526.get 0 rfl) rfl (by simp) (by simp [Value.oneCell'])) ?_
         intro _ w563 H562 O564; clear H525 O526
         refine wpList_nil ?_
         refine gw_blk ?_
         refine gw_nx (hK302 _ _ ?_)
         refine wp_region_lit ?_
         refine V H562 (op_field (gwfld26_2 _ _) rfl (H562.ev rfl)) ?_
         intro _ H566; clear H562
         refine V H566 (op_load1 gwagg24 rfl (H566.ev rfl) (blk_at (O564.get 2 rfl) rfl)) ?_
         intro _ H568; clear H566
         refine V H568 (op_loadn gwagg26 gwsiz26 rfl (H568.ev rfl) (O564.get 0 rfl) rfl rfl) ?_
         intro _ H570; clear H568
         refine gw_news (O := .cells #[J 1, .slice A514 ((L518).length) c515, .slice none 0 0] 26 (0, 0)) (n := 1) H570 O564 (want_none rfl) rfl (by decide) (op_bslice (by kernel_rfl) rfl (pt_cons (H570.ev rfl) pt_nil)) ?_
         intro g571 _ w573 H574 O575; clear H570 O564
         have O576 : Own w w573 [Bk g571 [J 1, .slice A514 ((L518).length) c515, .slice none 0 0] 26, Bk g296 [J 1, .slice A514 ((L518).length) c515, .slice none 0 0] 26, Chunk.nrow k26 26 w.heap.size Sa (.slice Aa kids.length ca) kids, Bk g50 [J 2, .slice none 0 0, .slice Aa kids.length ca] 26, Bk g2 [J 0, .slice none 0 0, .slice none 0 0] 26, Bk g39 [.string s, J (s.size : Int), J e2517, J ((s.size : Int) - (m510 : Nat))] 44, Chunk.view k55 S516 A514 ((L518).length) c515 L518] := O575
         clear O575
         have O577 : Own w w573 [Chunk.view k26 (fun k_ => k_ = g571 ∨ S516 k_) (some ⟨g571, 0, none⟩) (([(⟨1, L518, []⟩ : S26)]).length) (([(⟨1, L518, []⟩ : S26)]).length) ([(⟨1, L518, []⟩ : S26)]), Bk g296 [J 1, .slice A514 ((L518).length) c515, .slice none 0 0] 26, Chunk.nrow k26 26 w.heap.size Sa (.slice Aa kids.length ca) kids, Bk g50 [J 2, .slice none 0 0, .slice Aa kids.length ca] 26, Bk g2 [J 0, .slice none 0 0, .slice none 0 0] 26, Bk g39 [.string s, J (s.size : Int), J e2517, J ((s.size : Int) - (m510 : Nat))] 44] := Own.lit_view (cs := [J 1, .slice A514 ((L518).length) c515, .slice none 0 0]) (O576.sel [0, 6, 1, 2, 3, 4, 5] (by decide)) k26 [(⟨1, L518, []⟩ : S26)] (fun w_ h_ => reps_more (k26_mkF _ _ (⟨1, L518, []⟩ : S26) h_.2.1 h_.1 (Nat.le_refl _) (Kd.F_nil _ _ _)) rfl reps_none) (by simp [maxLen])
         clear O576
         have O579 : Own w w573 [Chunk.nrow k26 26 w.heap.size Sa (.slice Aa kids.length ca) kids, Chunk.view k26 (fun k_ => k_ = g571 ∨ S516 k_) (some ⟨g571, 0, none⟩) (([(⟨1, L518, []⟩ : S26)]).length) (([(⟨1, L518, []⟩ : S26)]).length) ([(⟨1, L518, []⟩ : S26)]), Bk g296 [J 1, .slice A514 ((L518).length) c515, .slice none 0 0] 26, Bk g50 [J 2, .slice none 0 0, .slice Aa kids.length ca] 26, Bk g2 [J 0, .slice none 0 0, .slice none 0 0] 26, Bk g39 [.string s, J (s.size : Int), J e2517, J ((s.size : Int) - (m510 : Nat))] 44] := O577.sel [2, 0, 1, 3, 4, 5] (by decide)
         refine gw_nappend k26 (ys := [(⟨1, L518, []⟩ : S26)]) H574 O579 (want_none rfl) rfl (by decide) rfl Tryz.underlying24 gwinfo26 rfl (by decide) (by decide) (H574.ev rfl) (H574.ev rfl) (fun w_ h_ => h_.1) O579.below.size (by omega) ?_
         intro A580 c581 S582 _ w584 H585 O586; clear H574 O577 O579
         have O587 : Own w w584 [Chunk.nrow k26 26 w.heap.size S582 (.slice A580 ((kids ++ [(⟨1, L518, []⟩ : S26)]).length) c581) (kids ++ [(⟨1, L518, []⟩ : S26)]), Bk g296 [J 1, .slice A514 ((L518).length) c515, .slice none 0 0] 26, Bk g50 [J 2, .slice none 0 0, .slice Aa kids.length ca] 26, Bk g2 [J 0, .slice none 0 0, .slice none 0 0] 26, Bk g39 [.string s, J (s.size : Int), J e2517, J ((s.size : Int) - (m510 : Nat))] 44] := O586
         clear O586
         refine V H585 (op_field (gwfld26_2 _ _) rfl (H585.ev rfl)) ?_
         intro _ H589; clear H585
         refine gw_set 2 H589 O587 rfl (want_none rfl) rfl (op_store1 gwsiz24 rfl (H589.ev rfl) (H589.ev rfl) rfl (blk_at (O587.get 2 rfl) rfl) (blkf (O587.get 2 rfl))) ?_
         intro _ w592 H591 O593; clear H589 O587
         refine wpList_nil ?_
         refine gw_blk ?_
         refine gw_nx ⟨_, ?_, (s.size : Int), e2517, ((s.size : Int) - (m510 : Nat)), (kids ++ [(⟨1, L518, []⟩ : S26)]), A580, _, _, (H591.pick (t := 2) rfl (H591.pick (t := 3) rfl (H591.pick (t := 4) rfl (H591.pick (t := 5) rfl (H591.pick (t := 6) rfl H591.nil))))), O593.sel [0, 2, 4, 3] (by decide), ?_, ?_, ?_, rfl⟩
         ·
          rw [hm69]; omega
         ·
          omega
         ·
          rw [List.length_append, List.length_singleton]; omega
         ·
          exact .inr ⟨he0, rfl, _, hR, rfl⟩
       ·
        have H594 := H505.subst_ (d := 44) (b := false) rfl hb506
        clear H505
        (try simp only [decide_eq_false_iff_not] at hb506)
        rw [if_neg (by assumption)] at hR
        refine wp_region_lit ?_
        refine V H594 (op_move rfl (H594.ev rfl)) ?_
        intro _ H596; clear H594
        refine gw_call H596 (want_none rfl) rfl (by decide) (op_callL Tryz.func18 (by kernel_rfl) rfl rfl (ar_cons (H596.ev rfl) ar_nil)) (one_walk x _) ?_
        rintro e601 w602 ⟨A597, c598, S599, rfl, hb603⟩
        refine ⟨_, rfl, fun _ H605 => ?_⟩
        have O606 := O311.fresh hb603
        clear H596 O311 hb603
        refine gw_setn 1 H605 O606 rfl (want_none rfl) rfl (op_storen gwsiz26 rfl (H605.ev rfl) (H605.ev rfl) (O606.get 1 rfl) rfl (by simp) (by simp [Value.oneCell'])) ?_
        intro _ w610 H609 O611; clear H605 O606
        refine wpList_nil ?_
        refine gw_blk ?_
        refine gw_nx (hK302 _ _ ?_)
        refine wp_region_lit ?_
        refine V H609 (op_field (gwfld26_2 _ _) rfl (H609.ev rfl)) ?_
        intro _ H613; clear H609
        refine V H613 (op_load1 gwagg24 rfl (H613.ev rfl) (blk_at (O611.get 3 rfl) rfl)) ?_
        intro _ H615; clear H613
        refine V H615 (op_loadn gwagg26 gwsiz26 rfl (H615.ev rfl) (O611.get 1 rfl) rfl rfl) ?_
        intro _ H617; clear H615
        refine gw_news (O := .cells #[J 1, .slice A597 (([(⟨x, x⟩ : S55)]).length) c598, .slice none 0 0] 26 (0, 0)) (n := 1) H617 O611 (want_none rfl) rfl (by decide) (op_bslice (by kernel_rfl) rfl (pt_cons (H617.ev rfl) pt_nil)) ?_
        intro g618 _ w620 H621 O622; clear H617 O611
        have O623 : Own w w620 [Bk g618 [J 1, .slice A597 (([(⟨x, x⟩ : S55)]).length) c598, .slice none 0 0] 26, Chunk.view k55 S599 A597 (([(⟨x, x⟩ : S55)]).length) c598 ([(⟨x, x⟩ : S55)]), Bk g296 [J 1, .slice A597 (([(⟨x, x⟩ : S55)]).length) c598, .slice none 0 0] 26, Chunk.nrow k26 26 w.heap.size Sa (.slice Aa kids.length ca) kids, Bk g50 [J 2, .slice none 0 0, .slice Aa kids.length ca] 26, Bk g39 [.string s, J ((s.size : Int) - r.length), J 0, J 0] 44, Bk g2 [J 0, .slice none 0 0, .slice none 0 0] 26] := O622
        clear O622
        have O624 : Own w w620 [Chunk.view k26 (fun k_ => k_ = g618 ∨ S599 k_) (some ⟨g618, 0, none⟩) (([(⟨1, ([(⟨x, x⟩ : S55)]), []⟩ : S26)]).length) (([(⟨1, ([(⟨x, x⟩ : S55)]), []⟩ : S26)]).length) ([(⟨1, ([(⟨x, x⟩ : S55)]), []⟩ : S26)]), Bk g296 [J 1, .slice A597 (([(⟨x, x⟩ : S55)]).length) c598, .slice none 0 0] 26, Chunk.nrow k26 26 w.heap.size Sa (.slice Aa kids.length ca) kids, Bk g50 [J 2, .slice none 0 0, .slice Aa kids.length ca] 26, Bk g39 [.string s, J ((s.size : Int) - r.length), J 0, J 0] 44, Bk g2 [J 0, .slice none 0 0, .slice none 0 0] 26] := Own.lit_view (cs := [J 1, .slice A597 (([(⟨x, x⟩ : S55)]).length) c598, .slice none 0 0]) (O623.sel [0, 1, 2, 3, 4, 5, 6] (by decide)) k26 [(⟨1, ([(⟨x, x⟩ : S55)]), []⟩ : S26)] (fun w_ h_ => reps_more (k26_mkF _ _ (⟨1, ([(⟨x, x⟩ : S55)]), []⟩ : S26) h_.2.1 h_.1 (Nat.le_refl _) (Kd.F_nil _ _ _)) rfl reps_none) (by simp [maxLen])
        clear O623
        have O626 : Own w w620 [Chunk.nrow k26 26 w.heap.size Sa (.slice Aa kids.length ca) kids, Chunk.view k26 (fun k_ => k_ = g618 ∨ S599 k_) (some ⟨g618, 0, none⟩) (([(⟨1, ([(⟨x, x⟩ : S55)]), []⟩ : S26)]).length) (([(⟨1, ([(⟨x, x⟩ : S55)]), []⟩ : S26)]).length) ([(⟨1, ([(⟨x, x⟩ : S55)]), []⟩ : S26)]), Bk g296 [J 1, .slice A597 (([(⟨x, x⟩ : S55)]).length) c598, .slice none 0 0] 26, Bk g50 [J 2, .slice none 0 0, .slice Aa kids.length ca] 26, Bk g39 [.string s, J ((s.size : Int) - r.length), J 0, J 0] 44, Bk g2 [J 0, .slice none 0 0, .slice none 0 0] 26] := O624.sel [2, 0, 1, 3, 4, 5] (by decide)
        refine gw_nappend k26 (ys := [(⟨1, ([(⟨x, x⟩ : S55)]), []⟩ : S26)]) H621 O626 (want_none rfl) rfl (by decide) rfl Tryz.underlying24 gwinfo26 rfl (by decide) (by decide) (H621.ev rfl) (H621.ev rfl) (fun w_ h_ => h_.1) O626.below.size (by omega) ?_
        intro A627 c628 S629 _ w631 H632 O633; clear H621 O624 O626
        have O634 : Own w w631 [Chunk.nrow k26 26 w.heap.size S629 (.slice A627 ((kids ++ [(⟨1, ([(⟨x, x⟩ : S55)]), []⟩ : S26)]).length) c628) (kids ++ [(⟨1, ([(⟨x, x⟩ : S55)]), []⟩ : S26)]), Bk g296 [J 1, .slice A597 (([(⟨x, x⟩ : S55)]).length) c598, .slice none 0 0] 26, Bk g50 [J 2, .slice none 0 0, .slice Aa kids.length ca] 26, Bk g39 [.string s, J ((s.size : Int) - r.length), J 0, J 0] 44, Bk g2 [J 0, .slice none 0 0, .slice none 0 0] 26] := O633
        clear O633
        refine V H632 (op_field (gwfld26_2 _ _) rfl (H632.ev rfl)) ?_
        intro _ H636; clear H632
        refine gw_set 2 H636 O634 rfl (want_none rfl) rfl (op_store1 gwsiz24 rfl (H636.ev rfl) (H636.ev rfl) rfl (blk_at (O634.get 2 rfl) rfl) (blkf (O634.get 2 rfl))) ?_
        intro _ w639 H638 O640; clear H636 O634
        refine wpList_nil ?_
        refine gw_blk ?_
        refine gw_nx ⟨_, ?_, ((s.size : Int) - r.length), 0, 0, (kids ++ [(⟨1, ([(⟨x, x⟩ : S55)]), []⟩ : S26)]), A627, _, _, (H638.pick (t := 2) rfl (H638.pick (t := 3) rfl (H638.pick (t := 4) rfl (H638.pick (t := 5) rfl (H638.pick (t := 6) rfl H638.nil))))), O640.sel [0, 2, 3, 4] (by decide), ?_, ?_, ?_, rfl⟩
        ·
         rw [hm69]; omega
        ·
         omega
        ·
         rw [List.length_append, List.length_singleton]; omega
        ·
         exact .inl ⟨rfl, rfl, k, by rw [hrr]; exact hk, by rw [hrr]; exact hR.symm⟩
   ·
    subst hpe
    refine gw_seq fun K641 hK641 => ?_
    refine gR fun K642 hK642 => ?_
    refine V H67 (op_move rfl (H67.ev rfl)) ?_
    intro _ H644; clear H67
    refine gw_call H644 (want_none rfl) rfl (by decide) (op_callL Tryz.func16 (by kernel_rfl) rfl rfl (ar_cons (H644.ev rfl) ar_nil)) (over_walk g39 s (s.size : Int) cd2 wr2 _ (O68.get 2 rfl)) ?_
    rintro e645 w646 ⟨rfl, hb647⟩
    refine ⟨_, rfl, fun _ H649 => ?_⟩
    have O650 := O68.after hb647
    clear H644 O68 hb647
    refine V H649 (op_not rfl (H649.ev rfl)) ?_
    intro _ H653; clear H649
    have H654 := H653.lit (b := false) (by simp)
    clear H653
    refine gE hK642 ?_
    refine gw_cond H654 rfl (fun hb655 => ?_) (fun hb655 => ?_)
    skip
    ·
     cases hb655
    refine wp_exit ?_
    refine gw_thx ?_
    refine gw_thx ?_
    refine gw_in ?_
    refine gw_nx (hK60 _ _ ?_)
    refine gw_seq fun K656 hK656 => ?_
    refine gR fun K657 hK657 => ?_
    refine V H654 (op_move rfl (H654.ev rfl)) ?_
    intro _ H659; clear H654
    refine V H659 (op_nil rfl (H659.ev rfl)) ?_
    intro _ H661; clear H659
    refine V H661 (op_field (gwfld44_2 _ _) rfl (H661.ev rfl)) ?_
    intro _ H663; clear H661
    refine V H663 (op_load1 gwagg27 rfl (H663.ev rfl) (blk_at (O650.get 2 rfl) rfl)) ?_
    intro _ H665; clear H663
    refine V H665 (op_nei rfl (H665.ev rfl) (ev_c _ _)) ?_
    intro _ H667; clear H665
    have H668 := H667.lit (b := true) (decide_eq_true hc0)
    clear H667
    refine gE hK657 ?_
    refine gw_cond H668 rfl (fun hb669 => ?_) (fun hb669 => ?_)
    rotate_left
    ·
     cases hb669
    refine gw_seq fun K670 hK670 => ?_
    refine gx_draw (M := [Bk g39 [.string s, J (s.size : Int), J cd2, J wr2] 44]) (fun j_ => false) O650 (by kernel_rfl) fun w671 O672 => ?_
    clear O650
    refine gx_take 0 rfl (by kernel_rfl) H668 (by exact O672.sel [2] (by decide)) (want_none rfl) rfl (by decide) (fun wq HO => (op_build (cells := #[J 0, .slice none 0 0, .slice none 0 0]) rfl pt_nil (by kernel_rfl))) ?_
    intro _ H674; clear H668
    refine gx_take 1 rfl (by kernel_rfl) H674 (by exact O672.sel [2] (by decide)) (want_none rfl) rfl (by decide) (fun wq HO => (op_move rfl (H674.ev rfl))) ?_
    intro _ H676; clear H674
    refine gx_take 2 rfl (by kernel_rfl) H676 (by exact O672.sel [2] (by decide)) (want_none rfl) rfl (by decide) (fun wq HO => (op_nil rfl (H676.ev rfl))) ?_
    intro _ H678; clear H676
    refine gx_take 3 rfl (by kernel_rfl) H678 (by exact O672.sel [2] (by decide)) (want_none rfl) rfl (by decide) (fun wq HO => (op_field (gwfld44_2 _ _) rfl (H678.ev rfl))) ?_
    intro _ H680; clear H678
    refine gx_take 4 rfl (by kernel_rfl) H680 (by exact O672.sel [2] (by decide)) (want_none rfl) rfl (by decide) (fun wq HO => (op_load1 gwagg27 rfl (H680.ev rfl) (blk_at (HO.get 0 rfl) rfl))) ?_
    intro _ H682; clear H680
    refine gx_take 5 rfl (by kernel_rfl) H682 (by exact O672.sel [2] (by decide)) (want_none rfl) rfl (by decide) (fun wq HO => (op_move rfl (H682.ev rfl))) ?_
    intro _ H684; clear H682
    refine gx_take 6 rfl (by kernel_rfl) H684 (by exact O672.sel [2] (by decide)) (want_none rfl) rfl (by decide) (fun wq HO => (op_nil rfl (H684.ev rfl))) ?_
    intro _ H686; clear H684
    refine gx_take 7 rfl (by kernel_rfl) H686 (by exact O672.sel [2] (by decide)) (want_none rfl) rfl (by decide) (fun wq HO => (op_field (gwfld44_3 _ _) rfl (H686.ev rfl))) ?_
    intro _ H688; clear H686
    refine gx_take 8 rfl (by kernel_rfl) H688 (by exact O672.sel [2] (by decide)) (want_none rfl) rfl (by decide) (fun wq HO => (op_load1 gwagg3 rfl (H688.ev rfl) (blk_at (HO.get 0 rfl) rfl))) ?_
    intro _ H690; clear H688
    refine gx_step 9 rfl (by kernel_rfl) ?_
    refine gw_setn 3 H690 O672 rfl (want_none rfl) rfl (op_storen gwsiz26 rfl (H690.ev rfl) (H690.ev rfl) (O672.get 3 rfl) rfl (by simp) (by simp [Value.oneCell'])) ?_
    intro _ w693 H692 O694; clear H690 O672
    refine gx_on (i := 9) (B := (fun j_ => false)) (fun _ => (by exact O694.sel [2] (by decide))) ?_
    refine gx_take 10 rfl (by kernel_rfl) H692 (by exact O694.sel [2] (by decide)) (want_none rfl) rfl (by decide) (fun wq HO => (op_assign rfl (H692.ev rfl))) ?_
    intro _ H696; clear H692
    refine gx_take 11 rfl (by kernel_rfl) H696 (by exact O694.sel [2] (by decide)) (want_none rfl) rfl (by decide) (fun wq HO => (op_assign rfl (H696.ev rfl))) ?_
    intro _ H698; clear H696
    refine gx_done (by kernel_rfl) ?_
    refine gw_nx (hK670 _ _ ?_)
    refine wp_ret ?_
    refine gw_thr ?_
    refine gw_rets3 H698 rfl (rv_celln H698 rfl gwagg26 gwsiz26 (O694.get 3 rfl) rfl) (rv_tmp H698 rfl) (rv_tmp H698 rfl) ?_
    rw [show parseG s = (0, [], cd2, wr2) from (parseG_bad hlong (hR.symm.trans hRES)).trans (by rw [← hw0])]
    exact ⟨none, 0, _, rfl, ((O694.nrow_nil k26 26 w.heap.size).sel [0] (by decide)).out⟩
end GParse_
export GParse_ (Parse_walk one_walk anything_walk)
end Go.Proofs.YtelbgmpeghhakaaGreat.PA
end
section
namespace Go.Proofs.YtelbgmpeghhakaaGreat.PA
open Go.RowKit Go.Proofs.YtelbgmpeghhakaaGreatW.PrintWords Go.Proofs.YtelbgmpeghhakaaGreatW.PrintLast Go.Proofs.YtelbgmpeghhakaaGreatW.PrintMore
set_option linter.unusedVariables false
set_option linter.unusedSimpArgs false
section
variable {P : Program} {o : Oper} {a : Act} {w : World} {x y z : Operand} {t yt : TypeId} {v : Value}
theorem op_func {f : FuncId} {caps : List Operand} {vs : List Value} (ho : o.op = .makeFunc (.func f) #[] caps.toArray) (hc : caps.map a.eval = vs) : Runs P o a w (.func (.func f) #[] vs.toArray) w := by
  unfold Runs execOp
  simp only [ho]
  simp [go_sem, Instr.makeFunc, hc]
theorem op_iface (hu : ∀ w, (Instr.makeInterface t v).run P w = .ok (.iface t v) w) (ho : o.op = .makeInterface t x) (hx : a.eval x = v) : Runs P o a w (.iface t v) w := by
  unfold Runs execOp
  simp only [ho, hx, Sem.run_bind, hu, Result.andThen_ok, Sem.run_pure]
theorem op_callV {f : FuncId} {fn : Func} {c : Operand} {args : List Operand} {tys : Array TypeId} {vs caps : List Value} (hf : P.funcs[f]? = some fn) (hname : (fn.name == "runtime.NumGoroutine") = false) (hb : fn.body.isSome = true) (ho : o.op = .call { callee := .value c, args := args.toArray, argTypes := tys }) (hc : a.eval c = .func (.func f) #[] caps.toArray) (hv : args.map a.eval = vs) : Enters P o a w f (vs ++ caps).toArray := by
  have he := enters_ hf hname hb (vs ++ caps).toArray w
  unfold Enters execOp
  simp [ho, resolve, Deferred.ofValue, invoke, hc, hv, he]
end
end Go.Proofs.YtelbgmpeghhakaaGreat.PA
end
section
namespace Go.Proofs.YtelbgmpeghhakaaGreat.PA
open Go.RowKit Go.Proofs.YtelbgmpeghhakaaGreatW.PrintWords Go.Proofs.YtelbgmpeghhakaaGreatW.PrintLast Go.Proofs.YtelbgmpeghhakaaGreatW.PrintMore
set_option linter.unusedVariables false
set_option linter.unusedSimpArgs false
theorem blkg_below {w w1 : World} {g : Nat} {o : Obj} (hb : Below w.heap.size w w1) (h : w.heap[g]? = some o) : w1.heap[g]? = some o := (hb.block g (blk_lt h)).trans h
def idxI {α : Type} (q : α → Bool) : List α → Int
  | [] => -1
  | x :: xs => if q x then 0 else if idxI q xs < 0 then -1 else idxI q xs + 1
theorem idxI_none {α : Type} {q : α → Bool} : ∀ {l : List α}, (∀ x ∈ l, q x = false) → idxI q l = -1
  | [], _ => rfl
  | x :: xs, h => by
    unfold idxI
    rw [h x (List.mem_cons_self ..), idxI_none (fun y hy => h y (List.mem_cons_of_mem _ hy))]
    rfl
theorem idxI_at {α : Type} {q : α → Bool} : ∀ {l : List α} (j : Nat) (z : α), j < l.length → (∀ i, i < j → q (l.getD i z) = false) → q (l.getD j z) = true → idxI q l = j
  | [], j, z, h, _, _ => absurd h (Nat.not_lt_zero _)
  | x :: xs, 0, z, _, _, h => by
    unfold idxI
    rw [show q x = true from h]
    rfl
  | x :: xs, j + 1, z, hj, hb, h => by
    have ih := idxI_at (l := xs) j z (by simpa using hj) (fun i hi => by simpa using hb (i + 1) (by omega)) (by simpa using h)
    unfold idxI
    rw [show q x = false by simpa using hb 0 (by omega), ih]
    simp only [Bool.false_eq_true, if_false]
    rw [if_neg (by omega)]
    omega
theorem idxI_lt {α : Type} (q : α → Bool) : ∀ l : List α, -1 ≤ idxI q l ∧ idxI q l < l.length
  | [] => by simp [idxI]
  | x :: xs => by
    have ih := idxI_lt q xs
    unfold idxI
    rw [List.length_cons]
    split
    · omega
    · split <;> omega
theorem idxI_any {α : Type} (q : α → Bool) : ∀ l : List α, decide (0 ≤ idxI q l) = l.any q
  | [] => rfl
  | x :: xs => by
    have ih := idxI_any q xs
    have h2 := idxI_lt q xs
    unfold idxI
    rw [List.any_cons, ← ih]
    cases hq : q x with
    | true => simp
    | false =>
      simp only [Bool.false_eq_true, if_false, Bool.false_or]
      split
      · rw [decide_eq_decide]; omega
      · rw [decide_eq_decide]; omega
theorem len_C {α : Type} {d : Kd α} {w : World} {A : Option Addr} {n : Nat} {xs : List α} (h : Kd.C d w A n xs) : n ≤ 9223372036854775807 := h.2.1
end Go.Proofs.YtelbgmpeghhakaaGreat.PA
end
section
namespace Go.Proofs.YtelbgmpeghhakaaGreat.PA
open Go.RowKit Go.Proofs.YtelbgmpeghhakaaGreatW.PrintWords Go.Proofs.YtelbgmpeghhakaaGreatW.PrintLast Go.Proofs.YtelbgmpeghhakaaGreatW.PrintMore
set_option linter.unusedVariables false
set_option linter.unusedSimpArgs false
namespace GIn_
theorem gwagg5 : ∀ w, (isAgg 5).run Tryz.prog w = .ok false w := fun _ => by kernel_rfl
theorem gwagg55 : ∀ w, (isAgg 55).run Tryz.prog w = .ok true w := fun _ => by kernel_rfl
theorem gwfld55_0 (g off : Nat) : ∀ w, (Instr.fieldAt 55 (.pointer (some ⟨g, off, none⟩)) 0).run Tryz.prog w = .ok (.pointer (some ⟨g, off + 0, none⟩)) w := fun _ => by kernel_rfl
theorem gwfld55_1 (g off : Nat) : ∀ w, (Instr.fieldAt 55 (.pointer (some ⟨g, off, none⟩)) 1).run Tryz.prog w = .ok (.pointer (some ⟨g, off + 1, none⟩)) w := fun _ => by kernel_rfl
theorem gwsiz55 : ∀ w, (sizeOf 55).run Tryz.prog w = .ok 2 w := fun _ => by kernel_rfl
set_option maxHeartbeats 4000000 in
set_option maxRecDepth 100000 in
theorem in1_calls (x : S55) (g : Nat) (c : Int) (w : World) (hB : w.heap[g]? = some (.cells #[.int .u8 c] 5 (0, 0))) :
    Calls Tryz.prog 39 #[.agg #[.int .u8 x.f0, .int .u8 x.f1], .pointer (some ⟨g, 0, none⟩)] w fun e w' => e = .returned (.bool (decide (x.f0 ≤ c) && decide (c ≤ x.f1))) ∧ Below w.heap.size w w' := by
 refine gw_start (N := 14) (vs := [.agg #[.int .u8 x.f0, .int .u8 x.f1], .pointer (some ⟨g, 0, none⟩)]) Tryz.func39 rfl rfl (by simp) fun a HF HO => ?_
 replace HO : Own w w [] := HO
 refine gR fun K1 hK1 => ?_
 refine gw_new HF HO (want_none rfl) rfl (by decide) (op_box rfl (HF.ev rfl)) ?_
 intro g2 _ w4 H5 O6; clear HF HO
 have O7 : Own w w4 [Bk g2 [.int .u8 x.f0, .int .u8 x.f1] 55] := O6
 clear O6
 refine V H5 (op_assign rfl (ev_c _ _)) ?_
 intro _ H9; clear H5
 refine gE hK1 ?_
 refine gR fun K10 hK10 => ?_
 refine V H9 (op_load1 gwagg5 rfl (H9.ev rfl) (blk_at (argblk O7 hB) rfl)) ?_
 intro _ H12; clear H9
 refine V H12 (op_field (gwfld55_0 _ _) rfl (H12.ev rfl)) ?_
 intro _ H14; clear H12
 refine V H14 (op_load1 gwagg5 rfl (H14.ev rfl) (blk_at (O7.get 0 rfl) rfl)) ?_
 intro _ H16; clear H14
 refine V H16 (op_geq rfl (H16.ev rfl) (H16.ev rfl)) ?_
 intro _ H18; clear H16
 refine V H18 (op_move rfl (H18.ev rfl)) ?_
 intro _ H20; clear H18
 refine gw_evG H20 rfl rfl rfl rfl (on_t _) rfl (by decide) (fun h_ => (op_load1 gwagg5 rfl (H20.ev rfl) (blk_at (argblk O7 hB) rfl))) ?_
 intro _ H22; clear H20
 refine gw_evG H22 rfl rfl rfl rfl (on_t _) rfl (by decide) (fun h_ => (op_field (gwfld55_1 _ _) rfl (H22.ev rfl))) ?_
 intro _ H24; clear H22
 refine gw_evG H24 rfl rfl rfl rfl (on_t _) rfl (by decide) (fun h_ => (op_load1 gwagg5 rfl (ev_gv (H24.ev rfl) h_) (blk_at (O7.get 0 rfl) rfl))) ?_
 intro _ H26; clear H24
 refine gw_evG H26 rfl rfl rfl rfl (on_t _) rfl (by decide) (fun h_ => (op_leq rfl (ev_gv (H26.ev rfl) h_) (ev_gv (H26.ev rfl) h_))) ?_
 intro _ H28; clear H26
 refine V H28 (op_pick_and rfl (H28.ev rfl) (fun hp_ => (ev_gv (H28.ev rfl) hp_)) (ev_c _ _)) ?_
 intro _ H30; clear H28
 refine V H30 (op_assign rfl (H30.ev rfl)) ?_
 intro _ H32; clear H30
 refine gE hK10 ?_
 refine wp_ret ?_
 refine gw_ret1 H32 rfl rfl ?_
 exact ⟨rfl, O7.below⟩
set_option maxHeartbeats 4000000 in
set_option maxRecDepth 100000 in
theorem idxr_calls (A0 : Option Addr) (c0 : Nat) (l : List S55) (w : World) (hr : Kd.C k55 w A0 l.length l) (hc : l.length ≤ c0) (hl : l.length ≤ 9223372036854775807) (fid : Nat) (fn0 : Func) (cap : List Value) (h1 : Tryz.prog.funcs[fid]? = some fn0) (h2 : (fn0.name == "runtime.NumGoroutine") = false) (h3 : fn0.body.isSome = true) (q : S55 → Bool) (hf : ∀ x ∈ l, ∀ w1, Below w.heap.size w w1 → Calls Tryz.prog fid ([(.agg #[.int .u8 x.f0, .int .u8 x.f1] : Value)] ++ cap).toArray w1 fun e w2 => e = .returned (.bool (q x)) ∧ Below w1.heap.size w1 w2) :
    Calls Tryz.prog 46 #[.slice A0 l.length c0, .func (.func fid) #[] cap.toArray] w fun e w' => e = .returned (.int .i64 (idxI q l)) ∧ Below w.heap.size w w' := by
 refine gw_start (N := 19) (vs := [.slice A0 l.length c0, .func (.func fid) #[] cap.toArray]) Tryz.func46 rfl rfl (by simp) fun a HF HO => ?_
 replace HO : Own w w [] := HO
 refine gR fun K1 hK1 => ?_
 refine V HF (op_assign rfl (ev_c _ _)) ?_
 intro _ H3; clear HF
 refine gE hK1 ?_
 refine gw_seq fun K4 hK4 => ?_
 refine gR fun K5 hK5 => ?_
 refine V H3 (op_move rfl (H3.ev rfl)) ?_
 intro _ H7; clear H3
 refine V H7 (op_len Tryz.underlying23 rfl (H7.ev rfl)) ?_
 intro _ H9; clear H7
 refine V H9 (op_move rfl (ev_c _ _)) ?_
 intro _ H11; clear H9
 refine gE hK5 ?_
 refine wp_block ?_
 refine gw_loop (fun m_ a_ w_ => ∃ (i : Int), Fr 19 a_ [(8, J i), (0, .slice A0 l.length c0), (1, .func (.func fid) #[] cap.toArray), (7, J (l.length : Int))] ∧ Own w w_ [] ∧ (0 ≤ i ∧ i ≤ l.length) ∧ (∀ j : Nat, j < i.toNat → q (l.getD j z55) = false) ∧ m_ = (l.length - i.toNat)) ((l.length - (0 : Int).toNat)) ?_ ?_
 ·
  refine ⟨0, (H11.pick (t := 8) rfl (H11.pick (t := 0) rfl (H11.pick (t := 1) rfl (H11.pick (t := 7) rfl H11.nil)))), HO.sel [] (by decide), ?_, ?_, rfl⟩
  ·
   omega
  ·
   intro j hj; simp at hj
 ·
  rintro m13 _ w15 ⟨i, H16, O17, hi, hq, hm18⟩
  refine gR fun K19 hK19 => ?_
  refine V H16 (op_lss rfl (H16.ev rfl) (H16.ev rfl)) ?_
  intro _ H21; clear H16
  refine gE hK19 ?_
  refine gw_seq fun K22 hK22 => ?_
  refine gw_cond H21 rfl (fun hb23 => ?_) (fun hb23 => ?_)
  ·
   have H24 := H21.subst_ (d := 9) (b := true) rfl hb23
   clear H21
   (try simp only [decide_eq_true_eq] at hb23)
   refine wp_skip ?_
   refine gw_nx (hK22 _ _ ?_)
   refine gw_seq fun K25 hK25 => ?_
   refine wp_block ?_
   refine gR fun K26 hK26 => ?_
   refine V H24 (op_move rfl (H24.ev rfl)) ?_
   intro _ H28; clear H24
   refine V H28 (op_assign rfl (H28.ev rfl)) ?_
   intro _ H30; clear H28
   refine gE hK26 ?_
   refine gR fun K31 hK31 => ?_
   refine V H30 (op_move rfl (H30.ev rfl)) ?_
   intro _ H33; clear H30
   refine V H33 (op_move rfl (H33.ev rfl)) ?_
   intro _ H35; clear H33
   refine V H35 (op_move rfl (H35.ev rfl)) ?_
   intro _ H37; clear H35
   obtain ⟨ad38, cs41, hA39, hl42, hK43, hc40⟩ := Kd.C_get hr z55 i (by omega) (by omega)
   obtain rfl := k55_open hK43
   clear hl42
   refine V H37 (op_index Tryz.underlying23 gwsiz55 rfl (H37.ev rfl) (H37.ev rfl) hA39 (⟨by omega, by omega⟩)) ?_
   intro _ H45; clear H37
   refine V H45 (op_loadc gwagg55 gwsiz55 rfl (H45.ev rfl) rfl (cells0 O17 hc40)) ?_
   intro _ H47; clear H45
   refine gw_call H47 (want_none rfl) rfl (by decide) (op_callV h1 h2 h3 rfl (H47.ev rfl) (ar_cons (H47.ev rfl) ar_nil)) (hf (l.getD i.toNat z55) (getD_mem l i.toNat (by omega)) _ O17.below) ?_
   rintro e48 w49 ⟨rfl, hb50⟩
   refine ⟨_, rfl, fun _ H52 => ?_⟩
   have O53 := O17.after hb50
   clear H47 O17 hb50
   refine gE hK31 ?_
   refine gw_cond H52 rfl (fun hb55 => ?_) (fun hb55 => ?_)
   ·
    have H56 := H52.subst_ (d := 16) (b := true) rfl hb55
    clear H52
    (try simp only [Bool.not_eq_true] at hb55)
    refine gR fun K57 hK57 => ?_
    refine V H56 (op_move rfl (H56.ev rfl)) ?_
    intro _ H59; clear H56
    refine V H59 (op_assign rfl (H59.ev rfl)) ?_
    intro _ H61; clear H59
    refine gE hK57 ?_
    refine wp_ret ?_
    refine gw_blr ?_
    refine gw_thr ?_
    refine gw_thr ?_
    refine gw_blr ?_
    refine gw_thr ?_
    refine gw_ret1 H61 rfl rfl ?_
    exact ⟨by rw [idxI_at i.toNat z55 (by omega) hq (by assumption)]; congr 2; omega, O53.below⟩
   ·
    have H62 := H52.subst_ (d := 16) (b := false) rfl hb55
    clear H52
    (try simp only [Bool.not_eq_true] at hb55)
    refine wp_skip ?_
    refine gw_blk ?_
    refine gw_nx (hK25 _ _ ?_)
    refine wp_region_lit ?_
    refine V H62 (op_add rfl (H62.ev rfl) (ev_c _ _) (by omega)) ?_
    intro _ H64; clear H62
    refine V H64 (op_move rfl (H64.ev rfl)) ?_
    intro _ H66; clear H64
    refine wpList_nil ?_
    refine gw_nx ⟨_, ?_, i + 1, (H66.pick (t := 8) rfl (H66.pick (t := 0) rfl (H66.pick (t := 1) rfl (H66.pick (t := 7) rfl H66.nil)))), O53.sel [] (by decide), ?_, ?_, rfl⟩
    ·
     rw [hm18]; omega
    ·
     omega
    ·
     intro j hj; by_cases hji : j = i.toNat; (· subst hji; assumption); exact hq j (by omega)
  ·
   have H67 := H21.subst_ (d := 9) (b := false) rfl hb23
   clear H21
   (try simp only [decide_eq_false_iff_not, Int.not_lt] at hb23)
   refine wp_exit ?_
   refine gw_thx ?_
   refine gw_thx ?_
   refine gw_in ?_
   refine gw_nx (hK4 _ _ ?_)
   refine gR fun K68 hK68 => ?_
   refine V H67 (op_assign rfl (ev_c _ _)) ?_
   intro _ H70; clear H67
   refine gE hK68 ?_
   refine wp_ret ?_
   refine gw_ret1 H70 rfl rfl ?_
   exact ⟨by rw [idxI_none (l := l) (fun x hx => by obtain ⟨j, hj, rfl⟩ := List.getElem_of_mem hx; have h_ := hq j (by omega); simpa [List.getD_eq_getElem?_getD, List.getElem?_eq_getElem hj] using h_)], O17.below⟩
set_option maxHeartbeats 4000000 in
set_option maxRecDepth 100000 in
theorem containsr_calls (A0 : Option Addr) (c0 : Nat) (l : List S55) (w : World) (hr : Kd.C k55 w A0 l.length l) (hc : l.length ≤ c0) (hl : l.length ≤ 9223372036854775807) (fid : Nat) (fn0 : Func) (cap : List Value) (h1 : Tryz.prog.funcs[fid]? = some fn0) (h2 : (fn0.name == "runtime.NumGoroutine") = false) (h3 : fn0.body.isSome = true) (q : S55 → Bool) (hf : ∀ x ∈ l, ∀ w1, Below w.heap.size w w1 → Calls Tryz.prog fid ([(.agg #[.int .u8 x.f0, .int .u8 x.f1] : Value)] ++ cap).toArray w1 fun e w2 => e = .returned (.bool (q x)) ∧ Below w1.heap.size w1 w2) :
    Calls Tryz.prog 38 #[.slice A0 l.length c0, .func (.func fid) #[] cap.toArray] w fun e w' => e = .returned (.bool (decide (0 ≤ idxI q l))) ∧ Below w.heap.size w w' := by
 refine gw_start (N := 9) (vs := [.slice A0 l.length c0, .func (.func fid) #[] cap.toArray]) Tryz.func38 rfl rfl (by simp) fun a HF HO => ?_
 replace HO : Own w w [] := HO
 refine gR fun K1 hK1 => ?_
 refine V HF (op_assign rfl (ev_c _ _)) ?_
 intro _ H3; clear HF
 refine gE hK1 ?_
 refine gR fun K4 hK4 => ?_
 refine V H3 (op_move rfl (H3.ev rfl)) ?_
 intro _ H6; clear H3
 refine V H6 (op_move rfl (H6.ev rfl)) ?_
 intro _ H8; clear H6
 refine gw_call H8 (want_none rfl) rfl (by decide) (op_callL Tryz.func46 (by kernel_rfl) rfl rfl (ar_cons (H8.ev rfl) (ar_cons (H8.ev rfl) ar_nil))) (idxr_calls A0 c0 l _ (Kd.C_below hr HO.below) hc hl fid fn0 cap h1 h2 h3 q (fun x hx w1 hb => hf x hx w1 (below_then HO.below hb))) ?_
 rintro e9 w10 ⟨rfl, hb11⟩
 refine ⟨_, rfl, fun _ H13 => ?_⟩
 have O14 := HO.after hb11
 clear H8 HO hb11
 refine V H13 (op_geq rfl (H13.ev rfl) (ev_c _ _)) ?_
 intro _ H17; clear H13
 refine V H17 (op_assign rfl (H17.ev rfl)) ?_
 intro _ H19; clear H17
 refine gE hK4 ?_
 refine wp_ret ?_
 refine gw_ret1 H19 rfl rfl ?_
 exact ⟨rfl, O14.below⟩
set_option maxHeartbeats 4000000 in
set_option maxRecDepth 100000 in
theorem in_walk (A0 : Option Addr) (c0 : Nat) (l : List S55) (c : Int) (w : World) (hr : Kd.C k55 w A0 l.length l) (hc : l.length ≤ c0) :
    Calls Tryz.prog 25 #[.slice A0 l.length c0, .int .u8 c] w fun e w' => e = .returned (.bool (inR l c)) ∧ Below w.heap.size w w' := by
 refine gw_start (N := 8) (vs := [.slice A0 l.length c0, .int .u8 c]) Tryz.func25 rfl rfl (by simp) fun a HF HO => ?_
 replace HO : Own w w [] := HO
 refine gR fun K1 hK1 => ?_
 refine gw_new HF HO (want_none rfl) rfl (by decide) (op_box rfl (HF.ev rfl)) ?_
 intro g2 _ w4 H5 O6; clear HF HO
 have O7 : Own w w4 [Bk g2 [.int .u8 c] 5] := O6
 clear O6
 refine V H5 (op_assign rfl (ev_c _ _)) ?_
 intro _ H9; clear H5
 refine gE hK1 ?_
 refine gR fun K10 hK10 => ?_
 refine V H9 (op_move rfl (H9.ev rfl)) ?_
 intro _ H12; clear H9
 refine V H12 (op_func rfl (ar_cons (H12.ev rfl) ar_nil)) ?_
 intro _ H14; clear H12
 refine gw_call H14 (want_none rfl) rfl (by decide) (op_callL Tryz.func38 (by kernel_rfl) rfl rfl (ar_cons (H14.ev rfl) (ar_cons (H14.ev rfl) ar_nil))) (containsr_calls A0 c0 l _ (Kd.C_below hr O7.below) hc (len_C (Kd.C_below hr O7.below)) 39 _ [.pointer (some ⟨g2, 0, none⟩)] Tryz.func39 (by kernel_rfl) rfl (fun x => decide (x.f0 ≤ c) && decide (c ≤ x.f1)) (fun x _ w1 hb => in1_calls x g2 c w1 (blkg_below hb (O7.get 0 rfl)))) ?_
 rintro e15 w16 ⟨rfl, hb17⟩
 refine ⟨_, rfl, fun _ H19 => ?_⟩
 have O20 := O7.after hb17
 clear H14 O7 hb17
 refine V H19 (op_assign rfl (H19.ev rfl)) ?_
 intro _ H23; clear H19
 refine gE hK10 ?_
 refine wp_ret ?_
 refine gw_ret1 H23 rfl rfl ?_
 exact ⟨by rw [idxI_any]; rfl, O20.below⟩
end GIn_
export GIn_ (in_walk)
end Go.Proofs.YtelbgmpeghhakaaGreat.PA
end
section
namespace Go.Proofs.YtelbgmpeghhakaaGreat.PA
open Go.RowKit Go.Proofs.YtelbgmpeghhakaaGreatW.PrintWords Go.Proofs.YtelbgmpeghhakaaGreatW.PrintLast Go.Proofs.YtelbgmpeghhakaaGreatW.PrintMore
set_option linter.unusedVariables false
set_option linter.unusedSimpArgs false
abbrev zN : NN := z26
def endsA (p : List Int → Bool) : List Int → Bool
  | [] => p []
  | c :: t => p (c :: t) || endsA p t
theorem endsA_iff (p : List Int → Bool) : ∀ t : List Int, endsA p t = true ↔ ∃ j, j ≤ t.length ∧ p (t.drop j) = true
  | [] => by
    unfold endsA
    exact ⟨fun h => ⟨0, Nat.le_refl _, h⟩, fun ⟨j, hj, h⟩ => by simpa using h⟩
  | c :: t => by
    unfold endsA
    rw [Bool.or_eq_true, endsA_iff p t]
    constructor
    · rintro (h | ⟨j, hj, h⟩)
      · exact ⟨0, Nat.zero_le _, h⟩
      · exact ⟨j + 1, by simpa using hj, h⟩
    · rintro ⟨j, hj, h⟩
      cases j with
      | zero => exact .inl h
      | succ j => exact .inr ⟨j, by simpa using hj, h⟩
def eatA (p : Int → Bool) (k : List Int → Bool) : List Int → Bool
  | [] => false
  | c :: t => p c && k t
def matchL : List NN → List Int → Bool
  | [] => fun t => t.isEmpty
  | n :: ks => fun t => if n.f0 = 4 then endsA (matchL ks) t else eatA (inR n.f1) (matchL ks) t
theorem matchL_cons (n : NN) (ks : List NN) (t : List Int) : matchL (n :: ks) t = if n.f0 = 4 then endsA (matchL ks) t else eatA (inR n.f1) (matchL ks) t := rfl
theorem matchL_star (n : NN) (ks : List NN) (t : List Int) (h : n.f0 = 4) : matchL (n :: ks) t = endsA (matchL ks) t := by rw [matchL_cons, if_pos h]
theorem matchL_set (n : NN) (ks : List NN) (c : Int) (t : List Int) (h : n.f0 ≠ 4) : matchL (n :: ks) (c :: t) = (inR n.f1 c && matchL ks t) := by rw [matchL_cons, if_neg h]; rfl
theorem matchL_set0 (n : NN) (ks : List NN) (h : n.f0 ≠ 4) : matchL (n :: ks) [] = false := by rw [matchL_cons, if_neg h]; rfl
theorem matchL_none (t : List Int) : matchL [] t = t.isEmpty := rfl
theorem drop_kid (K : List NN) (i : Int) (h0 : 0 ≤ i) (h1 : i < K.length) : K.drop i.toNat = K.getD i.toNat zN :: K.drop (i + 1).toNat := by
  have hl : i.toNat < K.length := by omega
  rw [List.drop_eq_getElem_cons hl, show (i + 1).toNat = i.toNat + 1 by omega]
  congr 1
  simp [List.getD_eq_getElem?_getD, List.getElem?_eq_getElem hl]
theorem run_set : ∀ (m : Nat) (K : List NN) (t : List Int), (∀ j, j < m → j < K.length ∧ (K.getD j zN).f0 ≠ 4) → matchL K t = true → m ≤ t.length ∧ matchL (K.drop m) (t.drop m) = true
  | 0, K, t, _, h => ⟨Nat.zero_le _, h⟩
  | m + 1, [], t, hk, _ => by have := (hk 0 (by omega)).1; simp at this
  | m + 1, n :: K, [], hk, h => by
    have := (hk 0 (by omega)).2
    rw [matchL_set0 n K this] at h
    cases h
  | m + 1, n :: K, c :: t, hk, h => by
    have h0 := (hk 0 (by omega)).2
    rw [matchL_set n K c t h0, Bool.and_eq_true] at h
    have ih := run_set m K t (fun j hj => by have := hk (j + 1) (by omega); simpa using this) h.2
    exact ⟨by simpa using ih.1, by simpa using ih.2⟩
structure MInv (K : List NN) (s : ByteArray) (a b f i : Int) : Prop where
  ha : 0 ≤ a ∧ a ≤ K.length
  hi : 0 ≤ i ∧ i ≤ s.size
  hb : -1 ≤ b ∧ b ≤ a
  hf : 0 ≤ f ∧ f ≤ i
  h0 : b < 0 → matchL K (bytesOf s) = matchL (K.drop a.toNat) (rest_ s i)
  h1 : 0 ≤ b → i - f = a - b ∧ (∀ j : Nat, b ≤ j → (j : Int) < a → (K.getD j zN).f0 ≠ 4) ∧ (matchL K (bytesOf s) = true ↔ (matchL (K.drop a.toNat) (rest_ s i) = true ∨ ∃ j : Int, f < j ∧ j ≤ s.size ∧ matchL (K.drop b.toNat) (rest_ s j) = true))
theorem MInv.start (K : List NN) (s : ByteArray) : MInv K s 0 (-1) 0 0 :=
  ⟨⟨Int.le_refl _, by omega⟩, ⟨Int.le_refl _, by omega⟩, ⟨Int.le_refl _, by omega⟩, ⟨Int.le_refl _, Int.le_refl _⟩, fun _ => rfl, fun h => by omega⟩
theorem MInv.set_ {K : List NN} {s : ByteArray} {a b f i : Int} (h : MInv K s a b f i) (hi : i < s.size) (ha : a < K.length) (hn : (K.getD a.toNat zN).f0 ≠ 4) (hin : inR (K.getD a.toNat zN).f1 (bt s i) = true) : MInv K s (a + 1) b f (i + 1) := by
  have e : matchL (K.drop a.toNat) (rest_ s i) = matchL (K.drop (a + 1).toNat) (rest_ s (i + 1)) := by
    rw [drop_kid K a h.ha.1 ha, rest_cons s i ⟨h.hi.1, hi⟩, matchL_set _ _ _ _ hn, hin, Bool.true_and]
  refine ⟨⟨by have := h.ha; omega, by omega⟩, ⟨by have := h.hi; omega, by omega⟩, ⟨h.hb.1, by have := h.hb; omega⟩, ⟨h.hf.1, by have := h.hf; omega⟩, fun hb => by rw [h.h0 hb, e], fun hb => ?_⟩
  obtain ⟨g1, g2, g3⟩ := h.h1 hb
  refine ⟨by omega, fun j hj1 hj2 => ?_, by rw [g3, e]⟩
  by_cases c : (j : Int) < a
  · exact g2 j hj1 c
  · have : j = a.toNat := by have := h.ha; omega
    subst this
    exact hn
theorem MInv.star {K : List NN} {s : ByteArray} {a b f i : Int} (h : MInv K s a b f i) (ha : a < K.length) (hn : (K.getD a.toNat zN).f0 = 4) : MInv K s (a + 1) (a + 1) i i := by
  have ha0 := h.ha.1
  have hi0 := h.hi
  have hl := rest_len s i hi0
  have hst : ∀ j : Nat, (rest_ s i).drop j = rest_ s (i + j) := fun j => by
    unfold rest_
    rw [List.drop_drop, show (i + (j : Int)).toNat = i.toNat + j by omega]
  have hstar : matchL (K.drop a.toNat) (rest_ s i) = true ↔ (∃ j : Int, i ≤ j ∧ j ≤ s.size ∧ matchL (K.drop (a + 1).toNat) (rest_ s j) = true) := by
    rw [drop_kid K a ha0 ha, matchL_star _ _ _ hn, endsA_iff]
    constructor
    · rintro ⟨j, hj, h2⟩
      exact ⟨i + j, by omega, by omega, by rw [← hst]; exact h2⟩
    · rintro ⟨j, hj1, hj2, h2⟩
      refine ⟨(j - i).toNat, by omega, ?_⟩
      rw [hst, show i + ((j - i).toNat : Int) = j by omega]
      exact h2
  have key : matchL K (bytesOf s) = true ↔ (∃ j : Int, i ≤ j ∧ j ≤ s.size ∧ matchL (K.drop (a + 1).toNat) (rest_ s j) = true) := by
    by_cases hb : b < 0
    · rw [h.h0 hb]; exact hstar
    · obtain ⟨g1, g2, g3⟩ := h.h1 (by omega)
      rw [g3, hstar]
      constructor
      · rintro (h2 | ⟨j, hj1, hj2, h2⟩)
        · exact h2
        · have hb0 : 0 ≤ b := by omega
          have hba := h.hb.2
          have hjl := rest_len s j ⟨by have := h.hf; omega, hj2⟩
          obtain ⟨r1, r2⟩ := run_set (a - b).toNat (K.drop b.toNat) (rest_ s j) (fun q hq => ⟨by rw [List.length_drop]; omega, by
            have := g2 (b.toNat + q) (by omega) (by omega)
            rwa [List.getD_eq_getElem?_getD, List.getElem?_drop, ← List.getD_eq_getElem?_getD]⟩) h2
          rw [List.drop_drop, show b.toNat + (a - b).toNat = a.toNat by omega] at r2
          have e3 : (rest_ s j).drop (a - b).toNat = rest_ s (j + (a - b)) := by
            unfold rest_
            rw [List.drop_drop, show (j + (a - b)).toNat = j.toNat + (a - b).toNat by have := h.hf; omega]
          rw [e3, drop_kid K a ha0 ha, matchL_star _ _ _ hn, endsA_iff] at r2
          obtain ⟨q, hq, h4⟩ := r2
          have hjl2 := rest_len s (j + (a - b)) ⟨by have := h.hf; omega, by omega⟩
          refine ⟨j + (a - b) + q, by omega, by omega, ?_⟩
          have : (rest_ s (j + (a - b))).drop q = rest_ s (j + (a - b) + q) := by
            unfold rest_
            rw [List.drop_drop, show (j + (a - b) + (q : Int)).toNat = (j + (a - b)).toNat + q by have := h.hf; omega]
          rw [← this]
          exact h4
      · exact fun h2 => .inl h2
  refine ⟨⟨by omega, by omega⟩, hi0, ⟨by omega, Int.le_refl _⟩, ⟨hi0.1, Int.le_refl _⟩, fun hb => by omega, fun _ => ⟨by omega, fun j h1 h2 => by omega, ?_⟩⟩
  rw [key]
  constructor
  · rintro ⟨j, hj1, hj2, h2⟩
    by_cases c : j = i
    · subst c; exact .inl h2
    · exact .inr ⟨j, by omega, hj2, h2⟩
  · rintro (h2 | ⟨j, hj1, hj2, h2⟩)
    · exact ⟨i, Int.le_refl _, hi0.2, h2⟩
    · exact ⟨j, by omega, hj2, h2⟩
theorem MInv.done {K : List NN} {s : ByteArray} {a b f i : Int} (h : MInv K s a b f i) (hi : i = s.size) (ha : a = K.length) : matchL K (bytesOf s) = true := by
  have e : matchL (K.drop a.toNat) (rest_ s i) = true := by
    rw [rest_nil s i (by omega), List.drop_eq_nil_of_le (by omega)]
    rfl
  by_cases hb : b < 0
  · rw [h.h0 hb, e]
  · exact (h.h1 (by omega)).2.2.2 (.inl e)
theorem MInv.here {K : List NN} {s : ByteArray} {a b f i : Int} (h : MInv K s a b f i) (hs : ¬ (a < K.length ∧ (K.getD a.toNat zN).f0 = 4)) (hc : ¬ (i < s.size ∧ a < K.length ∧ inR (K.getD a.toNat zN).f1 (bt s i) = true)) (hd : ¬ (i = s.size ∧ a = K.length)) : matchL (K.drop a.toNat) (rest_ s i) = false := by
  have ha := h.ha
  have hi := h.hi
  by_cases c1 : a < K.length
  · have hn : (K.getD a.toNat zN).f0 ≠ 4 := fun e => hs ⟨c1, e⟩
    rw [drop_kid K a ha.1 c1]
    by_cases c2 : i < s.size
    · rw [rest_cons s i ⟨hi.1, c2⟩, matchL_set _ _ _ _ hn]
      have : inR (K.getD a.toNat zN).f1 (bt s i) = false := by
        rw [← Bool.not_eq_true]
        exact fun e => hc ⟨c2, c1, e⟩
      rw [this, Bool.false_and]
    · rw [rest_nil s i (by omega), matchL_set0 _ _ hn]
  · rw [List.drop_eq_nil_of_le (by omega), rest_cons s i ⟨hi.1, by omega⟩]
    rfl
theorem MInv.back {K : List NN} {s : ByteArray} {a b f i : Int} (h : MInv K s a b f i) (hh : matchL (K.drop a.toNat) (rest_ s i) = false) (hb : 0 ≤ b) (hf : f < s.size) : MInv K s b b (f + 1) (f + 1) := by
  obtain ⟨g1, g2, g3⟩ := h.h1 hb
  have hba := h.hb.2
  refine ⟨⟨hb, by have := h.ha; omega⟩, ⟨by have := h.hf; omega, by omega⟩, ⟨by omega, Int.le_refl _⟩, ⟨by have := h.hf; omega, Int.le_refl _⟩, fun h2 => by omega, fun _ => ⟨by omega, fun j h1 h2 => by omega, ?_⟩⟩
  rw [g3, hh]
  constructor
  · rintro (h2 | ⟨j, hj1, hj2, h2⟩)
    · cases h2
    · by_cases c : j = f + 1
      · subst c; exact .inl h2
      · exact .inr ⟨j, by omega, hj2, h2⟩
  · rintro (h2 | ⟨j, hj1, hj2, h2⟩)
    · exact .inr ⟨f + 1, by omega, by omega, h2⟩
    · exact .inr ⟨j, by omega, hj2, h2⟩
theorem MInv.fail {K : List NN} {s : ByteArray} {a b f i : Int} (h : MInv K s a b f i) (hh : matchL (K.drop a.toNat) (rest_ s i) = false) (hb : b < 0 ∨ (s.size : Int) ≤ f) : matchL K (bytesOf s) = false := by
  by_cases hb0 : b < 0
  · rw [h.h0 hb0, hh]
  · obtain ⟨g1, g2, g3⟩ := h.h1 (by omega)
    rw [← Bool.not_eq_true, g3, hh]
    rintro (h2 | ⟨j, hj1, hj2, h2⟩)
    · cases h2
    · omega
def mMeas (K : List NN) (s : ByteArray) (a b f : Int) : Nat := ((K.length : Int) - (if b < 0 then 0 else b)).toNat * ((s.size + 1) * (K.length + 2)) + ((s.size : Int) - f).toNat * (K.length + 2) + ((K.length : Int) - a).toNat + (if b < 0 then (s.size + 1) * (K.length + 2) else 0)
theorem mMeas_set (K : List NN) (s : ByteArray) (a b f : Int) (ha : a < K.length) : mMeas K s (a + 1) b f < mMeas K s a b f := by
  unfold mMeas
  generalize ((K.length : Int) - (if b < 0 then 0 else b)).toNat * ((s.size + 1) * (K.length + 2)) = y
  generalize ((s.size : Int) - f).toNat * (K.length + 2) = z
  generalize (if b < 0 then (s.size + 1) * (K.length + 2) else 0) = x
  omega
theorem mMeas_back (K : List NN) (s : ByteArray) (a b f : Int) (hb : 0 ≤ b) (hba : b ≤ a) (ha : a ≤ K.length) (hf0 : 0 ≤ f) (hf : f < s.size) : mMeas K s b b (f + 1) < mMeas K s a b f := by
  unfold mMeas
  have e : ((s.size : Int) - f).toNat = ((s.size : Int) - (f + 1)).toNat + 1 := by omega
  rw [e, Nat.add_mul ((s.size : Int) - (f + 1)).toNat 1 (K.length + 2), Nat.one_mul, if_neg (show ¬ b < 0 by omega), if_neg (show ¬ b < 0 by omega)]
  generalize ((s.size : Int) - (f + 1)).toNat * (K.length + 2) = z
  generalize ((K.length : Int) - b).toNat * ((s.size + 1) * (K.length + 2)) = y
  omega
theorem mMeas_star (K : List NN) (s : ByteArray) (a b f i : Int) (hb : b ≤ a) (ha0 : 0 ≤ a) (ha : a < K.length) (hi : 0 ≤ i ∧ i ≤ s.size) (hf : 0 ≤ f ∧ f ≤ s.size) : mMeas K s (a + 1) (a + 1) i < mMeas K s a b f := by
  unfold mMeas
  rw [if_neg (by omega : ¬ a + 1 < 0), if_neg (by omega : ¬ a + 1 < 0)]
  have h1 : ((s.size : Int) - i).toNat * (K.length + 2) ≤ s.size * (K.length + 2) := Nat.mul_le_mul_right _ (by omega)
  have h2 : (s.size + 1) * (K.length + 2) = s.size * (K.length + 2) + (K.length + 2) := by rw [Nat.add_mul, Nat.one_mul]
  generalize hM : (s.size + 1) * (K.length + 2) = M at *
  by_cases hb0 : b < 0
  · rw [if_pos hb0, if_pos hb0]
    have h3 : ((K.length : Int) - (a + 1)).toNat * M ≤ ((K.length : Int) - 0).toNat * M := Nat.mul_le_mul_right _ (by omega)
    omega
  · rw [if_neg hb0, if_neg hb0]
    have e : ((K.length : Int) - b).toNat = (((K.length : Int) - b).toNat - 1) + 1 := by omega
    have h3 : ((K.length : Int) - (a + 1)).toNat * M ≤ (((K.length : Int) - b).toNat - 1) * M := Nat.mul_le_mul_right _ (by omega)
    rw [e, Nat.add_mul, Nat.one_mul]
    omega
end Go.Proofs.YtelbgmpeghhakaaGreat.PA
end
section
namespace Go.Proofs.YtelbgmpeghhakaaGreat.PA
open Go.RowKit Go.Proofs.YtelbgmpeghhakaaGreatW.PrintWords Go.Proofs.YtelbgmpeghhakaaGreatW.PrintLast Go.Proofs.YtelbgmpeghhakaaGreatW.PrintMore
set_option linter.unusedVariables false
set_option linter.unusedSimpArgs false
namespace GMatch_
theorem gwagg23 : ∀ w, (isAgg 23).run Tryz.prog w = .ok false w := fun _ => by kernel_rfl
theorem gwagg24 : ∀ w, (isAgg 24).run Tryz.prog w = .ok false w := fun _ => by kernel_rfl
theorem gwagg3 : ∀ w, (isAgg 3).run Tryz.prog w = .ok false w := fun _ => by kernel_rfl
theorem gwfld26_2 (g off : Nat) : ∀ w, (Instr.fieldAt 26 (.pointer (some ⟨g, off, none⟩)) 2).run Tryz.prog w = .ok (.pointer (some ⟨g, off + 2, none⟩)) w := fun _ => by kernel_rfl
theorem gwflda26_0 (ad : Addr) : ∀ w, (Instr.fieldAt 26 (.pointer (some ad)) 0).run Tryz.prog w = .ok (.pointer (some (ad.add 0))) w := fun _ => by kernel_rfl
theorem gwflda26_1 (ad : Addr) : ∀ w, (Instr.fieldAt 26 (.pointer (some ad)) 1).run Tryz.prog w = .ok (.pointer (some (ad.add 1))) w := fun _ => by kernel_rfl
theorem gwsiz26 : ∀ w, (sizeOf 26).run Tryz.prog w = .ok 3 w := fun _ => by kernel_rfl
theorem gwzer26 : ∀ w, (zeroValue 26).run Tryz.prog w = .ok (.agg #[.int .i64 0, .slice none 0 0, .slice none 0 0]) w := fun _ => by kernel_rfl
set_option maxHeartbeats 4000000 in
set_option maxRecDepth 100000 in
theorem Match_walk (pt tx : ByteArray) (w : World) (hts : tx.size ≤ 9223372036854775806) :
    Calls Tryz.prog 13 #[.string pt, .string tx] w fun e w' => e = .returned (.bool (decide ((parseG pt).2.2.1 = 0) && matchL (parseG pt).2.1 (bytesOf tx))) ∧ Below w.heap.size w w' := by
 refine gw_start (N := 90) (vs := [.string pt, .string tx]) Tryz.func13 rfl rfl (by simp) fun a HF HO => ?_
 replace HO : Own w w [] := HO
 refine gR fun K1 hK1 => ?_
 refine V HF (op_assign rfl (ev_c _ _)) ?_
 intro _ H3; clear HF
 refine gE hK1 ?_
 refine gR fun K4 hK4 => ?_
 refine V H3 (op_move rfl (H3.ev rfl)) ?_
 intro _ H6; clear H3
 refine gw_call H6 (want_none rfl) rfl (by decide) (op_callL Tryz.func10 (by kernel_rfl) rfl rfl (ar_cons (H6.ev rfl) ar_nil)) (Parse_walk pt _) ?_
 rintro e10 w11 ⟨A7, c8, S9, rfl, hb12⟩
 refine ⟨_, rfl, fun _ H14 => ?_⟩
 have O15 := HO.fresh hb12
 clear H6 HO hb12
 have O17 := O15.nrow_view 0 rfl
 clear O15
 have O18 : Own w w11 [Chunk.view k26 S9 A7 ((parseG pt).2.1.length) c8 ((parseG pt).2.1)] := O17
 clear O17
 have hKl := len_C (view_C (O18.get 0 rfl))
 refine V H14 (op_move rfl (H14.ev rfl)) ?_
 intro _ H20; clear H14
 refine V H20 (op_extract rfl (H20.ev rfl) rfl) ?_
 intro _ H22; clear H20
 refine V H22 (op_extract rfl (H22.ev rfl) rfl) ?_
 intro _ H24; clear H22
 refine V H24 (op_extract rfl (H24.ev rfl) rfl) ?_
 intro _ H26; clear H24
 refine gw_new H26 O18 (want_none rfl) rfl (by decide) (op_alloc gwzer26 rfl) ?_
 intro g27 _ w29 H30 O31; clear H26 O18
 have O32 : Own w w29 [Bk g27 [J 0, .slice none 0 0, .slice none 0 0] 26, Chunk.view k26 S9 A7 ((parseG pt).2.1.length) c8 ((parseG pt).2.1)] := O31
 clear O31
 refine gw_setn 0 H30 O32 rfl (want_none rfl) rfl (op_storen gwsiz26 rfl (H30.ev rfl) (H30.ev rfl) (O32.get 0 rfl) rfl (by simp) (by simp [Value.oneCell'])) ?_
 intro _ w35 H34 O36; clear H30 O32
 refine V H34 (op_assign rfl (H34.ev rfl)) ?_
 intro _ H38; clear H34
 refine V H38 (op_assign rfl (H38.ev rfl)) ?_
 intro _ H40; clear H38
 refine gE hK4 ?_
 refine gw_seq fun K41 hK41 => ?_
 refine gR fun K42 hK42 => ?_
 refine V H40 (op_move rfl (H40.ev rfl)) ?_
 intro _ H44; clear H40
 refine V H44 (op_nei rfl (H44.ev rfl) (ev_c _ _)) ?_
 intro _ H46; clear H44
 refine gE hK42 ?_
 refine gw_cond H46 rfl (fun hb47 => ?_) (fun hb47 => ?_)
 ·
  have H48 := H46.subst_ (d := 20) (b := true) rfl hb47
  clear H46
  (try simp only [decide_eq_true_eq, ne_eq] at hb47)
  have hq20 := hb47
  refine gR fun K49 hK49 => ?_
  refine V H48 (op_assign rfl (ev_c _ _)) ?_
  intro _ H51; clear H48
  refine gE hK49 ?_
  refine wp_ret ?_
  refine gw_thr ?_
  refine gw_ret1 H51 rfl rfl ?_
  exact ⟨by rw [decide_eq_false hq20]; rfl, O36.below⟩
 ·
  have H52 := H46.subst_ (d := 20) (b := false) rfl hb47
  clear H46
  (try simp only [decide_eq_false_iff_not, ne_eq, Decidable.not_not] at hb47)
  have hq20 := hb47
  refine wp_skip ?_
  refine gw_nx (hK41 _ _ ?_)
  refine gR fun K53 hK53 => ?_
  refine V H52 (op_field (gwfld26_2 _ _) rfl (H52.ev rfl)) ?_
  intro _ H55; clear H52
  refine V H55 (op_load1 gwagg24 rfl (H55.ev rfl) (blk_at (O36.get 0 rfl) rfl)) ?_
  intro _ H57; clear H55
  refine V H57 (op_assign rfl (H57.ev rfl)) ?_
  intro _ H59; clear H57
  refine gE hK53 ?_
  refine gR fun K60 hK60 => ?_
  refine V H59 (op_assign rfl (ev_c _ _)) ?_
  intro _ H62; clear H59
  refine V H62 (op_assign rfl (ev_c _ _)) ?_
  intro _ H64; clear H62
  refine V H64 (op_assign rfl (ev_c _ _)) ?_
  intro _ H66; clear H64
  refine gE hK60 ?_
  refine gR fun K67 hK67 => ?_
  refine V H66 (op_assign rfl (ev_c _ _)) ?_
  intro _ H69; clear H66
  refine gE hK67 ?_
  refine wp_block ?_
  refine gw_loop (fun m_ a_ w_ => ∃ (ka : Int) (kb : Int) (kf : Int) (ki : Int), Fr 90 a_ [(9, J ka), (10, J kb), (11, J kf), (12, J ki), (1, .string tx), (8, .slice A7 ((parseG pt).2.1.length) c8)] ∧ Own w w_ [Bk g27 [J ((parseG pt).1), .slice none 0 0, .slice A7 ((parseG pt).2.1.length) c8] 26, Chunk.view k26 S9 A7 ((parseG pt).2.1.length) c8 ((parseG pt).2.1)] ∧ (MInv (parseG pt).2.1 tx ka kb kf ki) ∧ m_ = mMeas (parseG pt).2.1 tx ka kb kf) (mMeas (parseG pt).2.1 tx (0 : Int) ((-1) : Int) (0 : Int)) ?_ ?_
  ·
   refine ⟨0, (-1), 0, 0, (H69.pick (t := 9) rfl (H69.pick (t := 10) rfl (H69.pick (t := 11) rfl (H69.pick (t := 12) rfl (H69.pick (t := 1) rfl (H69.pick (t := 8) rfl H69.nil)))))), O36.sel [0, 1] (by decide), ?_, rfl⟩
   ·
    exact MInv.start _ _
  ·
   rintro m71 _ w73 ⟨ka, kb, kf, ki, H74, O75, hM, hm76⟩
   have hMa := hM.ha
   have hMi := hM.hi
   have hMb := hM.hb
   have hMf := hM.hf
   refine wp_block ?_
   refine wp_block ?_
   refine gR fun K77 hK77 => ?_
   refine V H74 (op_move rfl (H74.ev rfl)) ?_
   intro _ H79; clear H74
   refine V H79 (op_move rfl (H79.ev rfl)) ?_
   intro _ H81; clear H79
   refine V H81 (op_len Tryz.underlying24 rfl (H81.ev rfl)) ?_
   intro _ H83; clear H81
   refine V H83 (op_lss rfl (H83.ev rfl) (H83.ev rfl)) ?_
   intro _ H85; clear H83
   refine V H85 (op_move rfl (H85.ev rfl)) ?_
   intro _ H87; clear H85
   refine gw_evG H87 rfl rfl rfl rfl (on_t _) rfl (by decide) (fun h_ => (op_move rfl (H87.ev rfl))) ?_
   intro _ H89; clear H87
   refine gw_evG H89 rfl rfl rfl rfl (on_t _) rfl (by decide) (fun h_ => (op_move rfl (H89.ev rfl))) ?_
   intro _ H91; clear H89
   have O101 := O75.pin 1 rfl
   clear O75
   have O102 : Own w w73 [Bk g27 [J ((parseG pt).1), .slice none 0 0, .slice A7 ((parseG pt).2.1.length) c8] 26, Chunk.viewAt w73 k26 S9 A7 ((parseG pt).2.1.length) c8 ((parseG pt).2.1)] := O101
   clear O101
   obtain ⟨ad95, cs98, hA96, hl99, hK100, hc97⟩ := F_getT (viewAt_F (O102.get 1 rfl)) z26 ka (⟨_, fun _ _ => k26_mk _ z26 (A1 := none) (c1 := 0) (Nat.le_refl _) (Kd.C_nil _ _) (A2 := none) (c2 := 0) (Nat.le_refl _) (Kd.C_nil _ _)⟩)
   obtain ⟨A103, c104, A107, c108, rfl, hl105, hC106, hl109, hC110⟩ := k26_openF hK100
   clear hl99
   refine gw_evG H91 rfl rfl rfl rfl (on_t _) rfl (by decide) (fun h_ => (op_index Tryz.underlying24 gwsiz26 rfl (ev_gv (H91.ev rfl) h_) (ev_gv (H91.ev rfl) h_) (hA96 ⟨by (try simp only [Bool.and_eq_true, Bool.or_eq_true, Bool.and_eq_false_iff, Bool.or_eq_false_iff, Bool.not_and, Bool.not_or, Bool.not_not, decide_eq_true_eq, decide_eq_false_iff_not, Bool.not_eq_true', Bool.not_eq_false', Bool.not_eq_true, Bool.not_eq_false, ne_eq, Decidable.not_not, Int.not_lt, Int.not_le, not_true_eq_false, not_false_eq_true, bne_iff_ne, beq_iff_eq, bne_eq_false_iff_eq, beq_eq_false_iff_ne] at h_); omega, by (try simp only [Bool.and_eq_true, Bool.or_eq_true, Bool.and_eq_false_iff, Bool.or_eq_false_iff, Bool.not_and, Bool.not_or, Bool.not_not, decide_eq_true_eq, decide_eq_false_iff_not, Bool.not_eq_true', Bool.not_eq_false', Bool.not_eq_true, Bool.not_eq_false, ne_eq, Decidable.not_not, Int.not_lt, Int.not_le, not_true_eq_false, not_false_eq_true, bne_iff_ne, beq_iff_eq, bne_eq_false_iff_eq, beq_eq_false_iff_ne] at h_); omega⟩) (⟨by (try simp only [Bool.and_eq_true, Bool.or_eq_true, Bool.and_eq_false_iff, Bool.or_eq_false_iff, Bool.not_and, Bool.not_or, Bool.not_not, decide_eq_true_eq, decide_eq_false_iff_not, Bool.not_eq_true', Bool.not_eq_false', Bool.not_eq_true, Bool.not_eq_false, ne_eq, Decidable.not_not, Int.not_lt, Int.not_le, not_true_eq_false, not_false_eq_true, bne_iff_ne, beq_iff_eq, bne_eq_false_iff_eq, beq_eq_false_iff_ne] at h_); omega, by (try simp only [Bool.and_eq_true, Bool.or_eq_true, Bool.and_eq_false_iff, Bool.or_eq_false_iff, Bool.not_and, Bool.not_or, Bool.not_not, decide_eq_true_eq, decide_eq_false_iff_not, Bool.not_eq_true', Bool.not_eq_false', Bool.not_eq_true, Bool.not_eq_false, ne_eq, Decidable.not_not, Int.not_lt, Int.not_le, not_true_eq_false, not_false_eq_true, bne_iff_ne, beq_iff_eq, bne_eq_false_iff_eq, beq_eq_false_iff_ne] at h_); omega⟩))) ?_
   intro _ H112; clear H91
   refine gw_evG H112 rfl rfl rfl rfl (on_t _) rfl (by decide) (fun h_ => (op_field (gwflda26_0 _) rfl (ev_gv (H112.ev rfl) h_))) ?_
   intro _ H114; clear H112
   refine gw_evG H114 rfl rfl rfl rfl (on_t _) rfl (by decide) (fun h_ => (op_load1 gwagg3 rfl (ev_gv (H114.ev rfl) h_) (((pin_cells (O102.get 1 rfl) (hA96 ⟨by (try simp only [Bool.and_eq_true, Bool.or_eq_true, Bool.and_eq_false_iff, Bool.or_eq_false_iff, Bool.not_and, Bool.not_or, Bool.not_not, decide_eq_true_eq, decide_eq_false_iff_not, Bool.not_eq_true', Bool.not_eq_false', Bool.not_eq_true, Bool.not_eq_false, ne_eq, Decidable.not_not, Int.not_lt, Int.not_le, not_true_eq_false, not_false_eq_true, bne_iff_ne, beq_iff_eq, bne_eq_false_iff_eq, beq_eq_false_iff_ne] at h_); omega, by (try simp only [Bool.and_eq_true, Bool.or_eq_true, Bool.and_eq_false_iff, Bool.or_eq_false_iff, Bool.not_and, Bool.not_or, Bool.not_not, decide_eq_true_eq, decide_eq_false_iff_not, Bool.not_eq_true', Bool.not_eq_false', Bool.not_eq_true, Bool.not_eq_false, ne_eq, Decidable.not_not, Int.not_lt, Int.not_le, not_true_eq_false, not_false_eq_true, bne_iff_ne, beq_iff_eq, bne_eq_false_iff_eq, beq_eq_false_iff_ne] at h_); omega⟩) (hc97 ⟨by (try simp only [Bool.and_eq_true, Bool.or_eq_true, Bool.and_eq_false_iff, Bool.or_eq_false_iff, Bool.not_and, Bool.not_or, Bool.not_not, decide_eq_true_eq, decide_eq_false_iff_not, Bool.not_eq_true', Bool.not_eq_false', Bool.not_eq_true, Bool.not_eq_false, ne_eq, Decidable.not_not, Int.not_lt, Int.not_le, not_true_eq_false, not_false_eq_true, bne_iff_ne, beq_iff_eq, bne_eq_false_iff_eq, beq_eq_false_iff_ne] at h_); omega, by (try simp only [Bool.and_eq_true, Bool.or_eq_true, Bool.and_eq_false_iff, Bool.or_eq_false_iff, Bool.not_and, Bool.not_or, Bool.not_not, decide_eq_true_eq, decide_eq_false_iff_not, Bool.not_eq_true', Bool.not_eq_false', Bool.not_eq_true, Bool.not_eq_false, ne_eq, Decidable.not_not, Int.not_lt, Int.not_le, not_true_eq_false, not_false_eq_true, bne_iff_ne, beq_iff_eq, bne_eq_false_iff_eq, beq_eq_false_iff_ne] at h_); omega⟩)) 0 _ rfl)))) ?_
   intro _ H116; clear H114
   refine gw_evG H116 rfl rfl rfl rfl (on_t _) rfl (by decide) (fun h_ => (op_eqi rfl (ev_gv (H116.ev rfl) h_) (ev_c _ _))) ?_
   intro _ H118; clear H116
   refine V H118 (op_pick_and rfl (H118.ev rfl) (fun hp_ => (ev_gv (H118.ev rfl) hp_)) (ev_c _ _)) ?_
   intro _ H120; clear H118
   refine V H120 (op_assign rfl (H120.ev rfl)) ?_
   intro _ H122; clear H120
   refine gE hK77 ?_
   refine gw_cond H122 rfl (fun hb123 => ?_) (fun hb123 => ?_)
   ·
    have H124 := H122.subst_ (d := 23) (b := true) rfl hb123
    clear H122
    (try simp only [Bool.and_eq_true, Bool.and_eq_false_iff, decide_eq_true_eq, decide_eq_false_iff_not, Int.not_lt] at hb123)
    have hst_ := And.right hb123
    refine gR fun K125 hK125 => ?_
    refine V H124 (op_move rfl (H124.ev rfl)) ?_
    intro _ H127; clear H124
    refine V H127 (op_add rfl (H127.ev rfl) (ev_c _ _) (by omega)) ?_
    intro _ H129; clear H127
    refine V H129 (op_assign rfl (H129.ev rfl)) ?_
    intro _ H131; clear H129
    refine gE hK125 ?_
    refine wp_region_lit ?_
    refine V H131 (op_move rfl (H131.ev rfl)) ?_
    intro _ H133; clear H131
    refine V H133 (op_move rfl (H133.ev rfl)) ?_
    intro _ H135; clear H133
    refine V H135 (op_assign rfl (H135.ev rfl)) ?_
    intro _ H137; clear H135
    refine V H137 (op_assign rfl (H137.ev rfl)) ?_
    intro _ H139; clear H137
    refine wpList_nil ?_
    refine gw_blk ?_
    refine gw_blk ?_
    have O140 := O102.unpin 1 rfl
    clear O102
    have O141 : Own w w73 [Bk g27 [J ((parseG pt).1), .slice none 0 0, .slice A7 ((parseG pt).2.1.length) c8] 26, Chunk.view k26 S9 A7 ((parseG pt).2.1.length) c8 ((parseG pt).2.1)] := O140
    clear O140
    refine gw_nx ⟨_, ?_, ka + 1, ka + 1, ki, ki, (H139.pick (t := 9) rfl (H139.pick (t := 10) rfl (H139.pick (t := 11) rfl (H139.pick (t := 12) rfl (H139.pick (t := 1) rfl (H139.pick (t := 8) rfl H139.nil)))))), O141.sel [0, 1] (by decide), ?_, rfl⟩
    ·
     rw [hm76]; exact mMeas_star (parseG pt).2.1 tx ka kb kf ki (by have := hM.hb; omega) hM.ha.1 (by omega) hM.hi (by have := hM.hf; have := hM.hi; omega)
    ·
     exact hM.star (by omega) hst_
   ·
    have H142 := H122.subst_ (d := 23) (b := false) rfl hb123
    clear H122
    (try simp only [Bool.and_eq_true, Bool.and_eq_false_iff, decide_eq_true_eq, decide_eq_false_iff_not, Int.not_lt] at hb123)
    have hq23 := hb123
    refine gw_seq fun K143 hK143 => ?_
    refine gw_drawB O102 (by kernel_rfl) (by kernel_rfl) fun w144 O145 => ?_
    clear O102
    refine gq_ev H142 (want_none rfl) rfl (by decide) (fun wq hq => have HO := O145.after hq; (op_move rfl (H142.ev rfl))) ?_
    intro _ H147; clear H142
    refine gq_ev H147 (want_none rfl) rfl (by decide) (fun wq hq => have HO := O145.after hq; (op_move rfl (H147.ev rfl))) ?_
    intro _ H149; clear H147
    refine gq_ev H149 (want_none rfl) rfl (by decide) (fun wq hq => have HO := O145.after hq; (op_lens Tryz.underlying9 rfl (H149.ev rfl))) ?_
    intro _ H151; clear H149
    refine gq_ev H151 (want_none rfl) rfl (by decide) (fun wq hq => have HO := O145.after hq; (op_lss rfl (H151.ev rfl) (H151.ev rfl))) ?_
    intro _ H153; clear H151
    refine gq_ev H153 (want_none rfl) rfl (by decide) (fun wq hq => have HO := O145.after hq; (op_move rfl (H153.ev rfl))) ?_
    intro _ H155; clear H153
    refine gq_evG H155 rfl rfl rfl rfl (on_t _) rfl (by decide) (fun h_ wq hq => have HO := O145.after hq; (op_move rfl (H155.ev rfl))) ?_
    intro _ H157; clear H155
    refine gq_evG H157 rfl rfl rfl rfl (on_t _) rfl (by decide) (fun h_ wq hq => have HO := O145.after hq; (op_move rfl (H157.ev rfl))) ?_
    intro _ H159; clear H157
    refine gq_evG H159 rfl rfl rfl rfl (on_t _) rfl (by decide) (fun h_ wq hq => have HO := O145.after hq; (op_len Tryz.underlying24 rfl (ev_gv (H159.ev rfl) h_))) ?_
    intro _ H161; clear H159
    refine gq_evG H161 rfl rfl rfl rfl (on_t _) rfl (by decide) (fun h_ wq hq => have HO := O145.after hq; (op_lss rfl (ev_gv (H161.ev rfl) h_) (ev_gv (H161.ev rfl) h_))) ?_
    intro _ H163; clear H161
    refine gq_ev H163 (want_none rfl) rfl (by decide) (fun wq hq => have HO := O145.after hq; (op_pick_and rfl (H163.ev rfl) (fun hp_ => (ev_gv (H163.ev rfl) hp_)) (ev_c _ _))) ?_
    intro _ H165; clear H163
    refine gq_ev H165 (want_none rfl) rfl (by decide) (fun wq hq => have HO := O145.after hq; (op_move rfl (H165.ev rfl))) ?_
    intro _ H167; clear H165
    refine gq_evG H167 rfl rfl rfl rfl (on_t _) rfl (by decide) (fun h_ wq hq => have HO := O145.after hq; (op_move rfl (H167.ev rfl))) ?_
    intro _ H169; clear H167
    refine gq_evG H169 rfl rfl rfl rfl (on_t _) rfl (by decide) (fun h_ wq hq => have HO := O145.after hq; (op_move rfl (H169.ev rfl))) ?_
    intro _ H171; clear H169
    obtain ⟨ad175, cs178, hA176, hl179, hK180, hc177⟩ := F_getT (viewAt_F (O145.get 1 rfl)) z26 ka (⟨_, fun _ _ => k26_mk _ z26 (A1 := none) (c1 := 0) (Nat.le_refl _) (Kd.C_nil _ _) (A2 := none) (c2 := 0) (Nat.le_refl _) (Kd.C_nil _ _)⟩)
    obtain ⟨A181, c182, A185, c186, rfl, hl183, hC184, hl187, hC188⟩ := k26_openF hK180
    clear hl179
    refine gq_evG H171 rfl rfl rfl rfl (on_t _) rfl (by decide) (fun h_ wq hq => have HO := O145.after hq; (op_index Tryz.underlying24 gwsiz26 rfl (ev_gv (H171.ev rfl) h_) (ev_gv (H171.ev rfl) h_) (hA176 ⟨by (try simp only [Bool.and_eq_true, Bool.or_eq_true, Bool.and_eq_false_iff, Bool.or_eq_false_iff, Bool.not_and, Bool.not_or, Bool.not_not, decide_eq_true_eq, decide_eq_false_iff_not, Bool.not_eq_true', Bool.not_eq_false', Bool.not_eq_true, Bool.not_eq_false, ne_eq, Decidable.not_not, Int.not_lt, Int.not_le, not_true_eq_false, not_false_eq_true, bne_iff_ne, beq_iff_eq, bne_eq_false_iff_eq, beq_eq_false_iff_ne] at h_); omega, by (try simp only [Bool.and_eq_true, Bool.or_eq_true, Bool.and_eq_false_iff, Bool.or_eq_false_iff, Bool.not_and, Bool.not_or, Bool.not_not, decide_eq_true_eq, decide_eq_false_iff_not, Bool.not_eq_true', Bool.not_eq_false', Bool.not_eq_true, Bool.not_eq_false, ne_eq, Decidable.not_not, Int.not_lt, Int.not_le, not_true_eq_false, not_false_eq_true, bne_iff_ne, beq_iff_eq, bne_eq_false_iff_eq, beq_eq_false_iff_ne] at h_); omega⟩) (⟨by (try simp only [Bool.and_eq_true, Bool.or_eq_true, Bool.and_eq_false_iff, Bool.or_eq_false_iff, Bool.not_and, Bool.not_or, Bool.not_not, decide_eq_true_eq, decide_eq_false_iff_not, Bool.not_eq_true', Bool.not_eq_false', Bool.not_eq_true, Bool.not_eq_false, ne_eq, Decidable.not_not, Int.not_lt, Int.not_le, not_true_eq_false, not_false_eq_true, bne_iff_ne, beq_iff_eq, bne_eq_false_iff_eq, beq_eq_false_iff_ne] at h_); omega, by (try simp only [Bool.and_eq_true, Bool.or_eq_true, Bool.and_eq_false_iff, Bool.or_eq_false_iff, Bool.not_and, Bool.not_or, Bool.not_not, decide_eq_true_eq, decide_eq_false_iff_not, Bool.not_eq_true', Bool.not_eq_false', Bool.not_eq_true, Bool.not_eq_false, ne_eq, Decidable.not_not, Int.not_lt, Int.not_le, not_true_eq_false, not_false_eq_true, bne_iff_ne, beq_iff_eq, bne_eq_false_iff_eq, beq_eq_false_iff_ne] at h_); omega⟩))) ?_
    intro _ H190; clear H171
    refine gq_evG H190 rfl rfl rfl rfl (on_t _) rfl (by decide) (fun h_ wq hq => have HO := O145.after hq; (op_field (gwflda26_1 _) rfl (ev_gv (H190.ev rfl) h_))) ?_
    intro _ H192; clear H190
    refine gq_evG H192 rfl rfl rfl rfl (on_t _) rfl (by decide) (fun h_ wq hq => have HO := O145.after hq; (op_load1 gwagg23 rfl (ev_gv (H192.ev rfl) h_) (((pin_cells (HO.get 1 rfl) (hA176 ⟨by (try simp only [Bool.and_eq_true, Bool.or_eq_true, Bool.and_eq_false_iff, Bool.or_eq_false_iff, Bool.not_and, Bool.not_or, Bool.not_not, decide_eq_true_eq, decide_eq_false_iff_not, Bool.not_eq_true', Bool.not_eq_false', Bool.not_eq_true, Bool.not_eq_false, ne_eq, Decidable.not_not, Int.not_lt, Int.not_le, not_true_eq_false, not_false_eq_true, bne_iff_ne, beq_iff_eq, bne_eq_false_iff_eq, beq_eq_false_iff_ne] at h_); omega, by (try simp only [Bool.and_eq_true, Bool.or_eq_true, Bool.and_eq_false_iff, Bool.or_eq_false_iff, Bool.not_and, Bool.not_or, Bool.not_not, decide_eq_true_eq, decide_eq_false_iff_not, Bool.not_eq_true', Bool.not_eq_false', Bool.not_eq_true, Bool.not_eq_false, ne_eq, Decidable.not_not, Int.not_lt, Int.not_le, not_true_eq_false, not_false_eq_true, bne_iff_ne, beq_iff_eq, bne_eq_false_iff_eq, beq_eq_false_iff_ne] at h_); omega⟩) (hc177 ⟨by (try simp only [Bool.and_eq_true, Bool.or_eq_true, Bool.and_eq_false_iff, Bool.or_eq_false_iff, Bool.not_and, Bool.not_or, Bool.not_not, decide_eq_true_eq, decide_eq_false_iff_not, Bool.not_eq_true', Bool.not_eq_false', Bool.not_eq_true, Bool.not_eq_false, ne_eq, Decidable.not_not, Int.not_lt, Int.not_le, not_true_eq_false, not_false_eq_true, bne_iff_ne, beq_iff_eq, bne_eq_false_iff_eq, beq_eq_false_iff_ne] at h_); omega, by (try simp only [Bool.and_eq_true, Bool.or_eq_true, Bool.and_eq_false_iff, Bool.or_eq_false_iff, Bool.not_and, Bool.not_or, Bool.not_not, decide_eq_true_eq, decide_eq_false_iff_not, Bool.not_eq_true', Bool.not_eq_false', Bool.not_eq_true, Bool.not_eq_false, ne_eq, Decidable.not_not, Int.not_lt, Int.not_le, not_true_eq_false, not_false_eq_true, bne_iff_ne, beq_iff_eq, bne_eq_false_iff_eq, beq_eq_false_iff_ne] at h_); omega⟩)) 1 _ rfl)))) ?_
    intro _ H194; clear H192
    refine gq_evG H194 rfl rfl rfl rfl (on_t _) rfl (by decide) (fun h_ wq hq => have HO := O145.after hq; (op_move rfl (H194.ev rfl))) ?_
    intro _ H196; clear H194
    refine gq_evG H196 rfl rfl rfl rfl (on_t _) rfl (by decide) (fun h_ wq hq => have HO := O145.after hq; (op_move rfl (H196.ev rfl))) ?_
    intro _ H198; clear H196
    refine gq_evG H198 rfl rfl rfl rfl (on_t _) rfl (by decide) (fun h_ wq hq => have HO := O145.after hq; (op_sidx Tryz.underlying9 rfl (ev_gv (H198.ev rfl) h_) (ev_gv (H198.ev rfl) h_) ⟨by (try simp only [Bool.and_eq_true, Bool.or_eq_true, Bool.and_eq_false_iff, Bool.or_eq_false_iff, Bool.not_and, Bool.not_or, Bool.not_not, decide_eq_true_eq, decide_eq_false_iff_not, Bool.not_eq_true', Bool.not_eq_false', Bool.not_eq_true, Bool.not_eq_false, ne_eq, Decidable.not_not, Int.not_lt, Int.not_le, not_true_eq_false, not_false_eq_true, bne_iff_ne, beq_iff_eq, bne_eq_false_iff_eq, beq_eq_false_iff_ne] at h_); omega, by (try simp only [Bool.and_eq_true, Bool.or_eq_true, Bool.and_eq_false_iff, Bool.or_eq_false_iff, Bool.not_and, Bool.not_or, Bool.not_not, decide_eq_true_eq, decide_eq_false_iff_not, Bool.not_eq_true', Bool.not_eq_false', Bool.not_eq_true, Bool.not_eq_false, ne_eq, Decidable.not_not, Int.not_lt, Int.not_le, not_true_eq_false, not_false_eq_true, bne_iff_ne, beq_iff_eq, bne_eq_false_iff_eq, beq_eq_false_iff_ne] at h_); omega⟩)) ?_
    intro _ H200; clear H198
    refine gq_callG H200 rfl rfl rfl rfl (on_t _) rfl (by decide) (fun h_ wq hq => have HO := O145.after hq; (op_callL Tryz.func25 (by kernel_rfl) rfl rfl (ar_cons (ev_gv (H200.ev rfl) h_) (ar_cons (ev_gv (H200.ev rfl) h_) ar_nil)))) (fun h_ wq hq => have HO := O145.after hq; (in_walk A181 c182 ((((parseG pt).2.1).getD ka.toNat z26).f1) (bt tx ki) _ (pinC (HO.get 1 rfl) hC184) hl183).mono fun e w' h => ⟨h.1, below_then hq h.2⟩) ?_
    intro _ H202; clear H200
    refine gq_ev H202 (want_none rfl) rfl (by decide) (fun wq hq => have HO := O145.after hq; (op_pick_and rfl (H202.ev rfl) (fun hp_ => (ev_gv (H202.ev rfl) hp_)) (ev_c _ _))) ?_
    intro _ H204; clear H202
    refine gq_ev H204 (want_none rfl) rfl (by decide) (fun wq hq => have HO := O145.after hq; (op_assign rfl (H204.ev rfl))) ?_
    intro _ H206; clear H204
    refine wpQuiet_nil ?_
    intro w207 hq
    have O208 := O145.after hq
    clear O145 hq
    refine gw_nx (hK143 _ _ ?_)
    refine gw_cond H206 rfl (fun hb209 => ?_) (fun hb209 => ?_)
    ·
     have H210 := H206.subst_ (d := 40) (b := true) rfl hb209
     clear H206
     (try simp only [Bool.and_eq_true, Bool.and_eq_false_iff, decide_eq_true_eq, decide_eq_false_iff_not, Int.not_lt] at hb209)
     have hin_ := And.right hb209
     have hns_ : ¬ ((parseG pt).2.1.getD ka.toNat z26).f0 = 4 := by rcases hq23 with h_ | h_; omega; exact h_
     refine gR fun K211 hK211 => ?_
     refine V H210 (op_move rfl (H210.ev rfl)) ?_
     intro _ H213; clear H210
     refine V H213 (op_add rfl (H213.ev rfl) (ev_c _ _) (by omega)) ?_
     intro _ H215; clear H213
     refine V H215 (op_assign rfl (H215.ev rfl)) ?_
     intro _ H217; clear H215
     refine gE hK211 ?_
     refine wp_region_lit ?_
     refine V H217 (op_move rfl (H217.ev rfl)) ?_
     intro _ H219; clear H217
     refine V H219 (op_add rfl (H219.ev rfl) (ev_c _ _) (by omega)) ?_
     intro _ H221; clear H219
     refine V H221 (op_assign rfl (H221.ev rfl)) ?_
     intro _ H223; clear H221
     refine wpList_nil ?_
     refine gw_blk ?_
     refine gw_blk ?_
     have O224 := O208.unpin 1 rfl
     clear O208
     have O225 : Own w w207 [Bk g27 [J ((parseG pt).1), .slice none 0 0, .slice A7 ((parseG pt).2.1.length) c8] 26, Chunk.view k26 S9 A7 ((parseG pt).2.1.length) c8 ((parseG pt).2.1)] := O224
     clear O224
     refine gw_nx ⟨_, ?_, ka + 1, kb, kf, ki + 1, (H223.pick (t := 9) rfl (H223.pick (t := 10) rfl (H223.pick (t := 11) rfl (H223.pick (t := 12) rfl (H223.pick (t := 1) rfl (H223.pick (t := 8) rfl H223.nil)))))), O225.sel [0, 1] (by decide), ?_, rfl⟩
     ·
      rw [hm76]; exact mMeas_set (parseG pt).2.1 tx ka kb kf (by omega)
     ·
      exact hM.set_ (by omega) (by omega) hns_ hin_
    ·
     have H226 := H206.subst_ (d := 40) (b := false) rfl hb209
     clear H206
     (try simp only [Bool.and_eq_true, Bool.and_eq_false_iff, decide_eq_true_eq, decide_eq_false_iff_not, Int.not_lt] at hb209)
     have hq40 := hb209
     refine gR fun K227 hK227 => ?_
     refine V H226 (op_move rfl (H226.ev rfl)) ?_
     intro _ H229; clear H226
     refine V H229 (op_move rfl (H229.ev rfl)) ?_
     intro _ H231; clear H229
     refine V H231 (op_lens Tryz.underlying9 rfl (H231.ev rfl)) ?_
     intro _ H233; clear H231
     refine V H233 (op_eqi rfl (H233.ev rfl) (H233.ev rfl)) ?_
     intro _ H235; clear H233
     refine V H235 (op_move rfl (H235.ev rfl)) ?_
     intro _ H237; clear H235
     refine gw_evG H237 rfl rfl rfl rfl (on_t _) rfl (by decide) (fun h_ => (op_move rfl (H237.ev rfl))) ?_
     intro _ H239; clear H237
     refine gw_evG H239 rfl rfl rfl rfl (on_t _) rfl (by decide) (fun h_ => (op_move rfl (H239.ev rfl))) ?_
     intro _ H241; clear H239
     refine gw_evG H241 rfl rfl rfl rfl (on_t _) rfl (by decide) (fun h_ => (op_len Tryz.underlying24 rfl (ev_gv (H241.ev rfl) h_))) ?_
     intro _ H243; clear H241
     refine gw_evG H243 rfl rfl rfl rfl (on_t _) rfl (by decide) (fun h_ => (op_eqi rfl (ev_gv (H243.ev rfl) h_) (ev_gv (H243.ev rfl) h_))) ?_
     intro _ H245; clear H243
     refine V H245 (op_pick_and rfl (H245.ev rfl) (fun hp_ => (ev_gv (H245.ev rfl) hp_)) (ev_c _ _)) ?_
     intro _ H247; clear H245
     refine V H247 (op_assign rfl (H247.ev rfl)) ?_
     intro _ H249; clear H247
     refine gE hK227 ?_
     refine gw_cond H249 rfl (fun hb250 => ?_) (fun hb250 => ?_)
     ·
      have H251 := H249.subst_ (d := 66) (b := true) rfl hb250
      clear H249
      (try simp only [Bool.and_eq_true, Bool.and_eq_false_iff, decide_eq_true_eq, decide_eq_false_iff_not] at hb250)
      refine gR fun K252 hK252 => ?_
      refine V H251 (op_assign rfl (ev_c _ _)) ?_
      intro _ H254; clear H251
      refine gE hK252 ?_
      refine wp_ret ?_
      refine gw_blr ?_
      refine gw_blr ?_
      refine gw_thr ?_
      refine gw_blr ?_
      have O255 := O208.unpin 1 rfl
      clear O208
      have O256 : Own w w207 [Bk g27 [J ((parseG pt).1), .slice none 0 0, .slice A7 ((parseG pt).2.1.length) c8] 26, Chunk.view k26 S9 A7 ((parseG pt).2.1.length) c8 ((parseG pt).2.1)] := O255
      clear O255
      refine gw_ret1 H254 rfl rfl ?_
      exact ⟨by rw [hq20, hM.done (by omega) (by omega)]; rfl, O256.below⟩
     ·
      have H257 := H249.subst_ (d := 66) (b := false) rfl hb250
      clear H249
      (try simp only [Bool.and_eq_true, Bool.and_eq_false_iff, decide_eq_true_eq, decide_eq_false_iff_not] at hb250)
      have hq66 := hb250
      have hhere := hM.here (by rintro ⟨h1_, h2_⟩; have h_ := hq23; rcases h_ with h_ | h_; omega; exact h_ h2_) (by rintro ⟨h1_, h2_, h3_⟩; have h_ := hq40; rcases h_ with (h_ | h_) | h_; omega; omega; (rw [h_] at h3_; cases h3_)) (by rintro ⟨h1_, h2_⟩; have h_ := hq66; rcases h_ with h_ | h_; omega; omega)
      refine gR fun K258 hK258 => ?_
      refine V H257 (op_move rfl (H257.ev rfl)) ?_
      intro _ H260; clear H257
      refine V H260 (op_geq rfl (H260.ev rfl) (ev_c _ _)) ?_
      intro _ H262; clear H260
      refine V H262 (op_move rfl (H262.ev rfl)) ?_
      intro _ H264; clear H262
      refine gw_evG H264 rfl rfl rfl rfl (on_t _) rfl (by decide) (fun h_ => (op_move rfl (H264.ev rfl))) ?_
      intro _ H266; clear H264
      refine gw_evG H266 rfl rfl rfl rfl (on_t _) rfl (by decide) (fun h_ => (op_move rfl (H266.ev rfl))) ?_
      intro _ H268; clear H266
      refine gw_evG H268 rfl rfl rfl rfl (on_t _) rfl (by decide) (fun h_ => (op_lens Tryz.underlying9 rfl (ev_gv (H268.ev rfl) h_))) ?_
      intro _ H270; clear H268
      refine gw_evG H270 rfl rfl rfl rfl (on_t _) rfl (by decide) (fun h_ => (op_lss rfl (ev_gv (H270.ev rfl) h_) (ev_gv (H270.ev rfl) h_))) ?_
      intro _ H272; clear H270
      refine V H272 (op_pick_and rfl (H272.ev rfl) (fun hp_ => (ev_gv (H272.ev rfl) hp_)) (ev_c _ _)) ?_
      intro _ H274; clear H272
      refine V H274 (op_assign rfl (H274.ev rfl)) ?_
      intro _ H276; clear H274
      refine gE hK258 ?_
      refine gw_cond H276 rfl (fun hb277 => ?_) (fun hb277 => ?_)
      ·
       have H278 := H276.subst_ (d := 77) (b := true) rfl hb277
       clear H276
       (try simp only [Bool.and_eq_true, Bool.and_eq_false_iff, decide_eq_true_eq, decide_eq_false_iff_not, Int.not_lt, Int.not_le] at hb277)
       refine gR fun K279 hK279 => ?_
       refine V H278 (op_move rfl (H278.ev rfl)) ?_
       intro _ H281; clear H278
       refine V H281 (op_add rfl (H281.ev rfl) (ev_c _ _) (by omega)) ?_
       intro _ H283; clear H281
       refine V H283 (op_assign rfl (H283.ev rfl)) ?_
       intro _ H285; clear H283
       refine gE hK279 ?_
       refine wp_region_lit ?_
       refine V H285 (op_move rfl (H285.ev rfl)) ?_
       intro _ H287; clear H285
       refine V H287 (op_move rfl (H287.ev rfl)) ?_
       intro _ H289; clear H287
       refine V H289 (op_assign rfl (H289.ev rfl)) ?_
       intro _ H291; clear H289
       refine V H291 (op_assign rfl (H291.ev rfl)) ?_
       intro _ H293; clear H291
       refine wpList_nil ?_
       refine gw_blk ?_
       refine gw_blk ?_
       have O294 := O208.unpin 1 rfl
       clear O208
       have O295 : Own w w207 [Bk g27 [J ((parseG pt).1), .slice none 0 0, .slice A7 ((parseG pt).2.1.length) c8] 26, Chunk.view k26 S9 A7 ((parseG pt).2.1.length) c8 ((parseG pt).2.1)] := O294
       clear O294
       refine gw_nx ⟨_, ?_, kb, kb, kf + 1, kf + 1, (H293.pick (t := 9) rfl (H293.pick (t := 10) rfl (H293.pick (t := 11) rfl (H293.pick (t := 12) rfl (H293.pick (t := 1) rfl (H293.pick (t := 8) rfl H293.nil)))))), O295.sel [0, 1] (by decide), ?_, rfl⟩
       ·
        rw [hm76]; exact mMeas_back (parseG pt).2.1 tx ka kb kf (by omega) hM.hb.2 hM.ha.2 hM.hf.1 (by omega)
       ·
        exact hM.back hhere (by omega) (by omega)
      ·
       have H296 := H276.subst_ (d := 77) (b := false) rfl hb277
       clear H276
       (try simp only [Bool.and_eq_true, Bool.and_eq_false_iff, decide_eq_true_eq, decide_eq_false_iff_not, Int.not_lt, Int.not_le] at hb277)
       have hq77 := hb277
       refine gR fun K297 hK297 => ?_
       refine V H296 (op_assign rfl (ev_c _ _)) ?_
       intro _ H299; clear H296
       refine gE hK297 ?_
       refine wp_ret ?_
       refine gw_blr ?_
       refine gw_blr ?_
       refine gw_thr ?_
       refine gw_blr ?_
       have O300 := O208.unpin 1 rfl
       clear O208
       have O301 : Own w w207 [Bk g27 [J ((parseG pt).1), .slice none 0 0, .slice A7 ((parseG pt).2.1.length) c8] 26, Chunk.view k26 S9 A7 ((parseG pt).2.1.length) c8 ((parseG pt).2.1)] := O300
       clear O300
       refine gw_ret1 H299 rfl rfl ?_
       exact ⟨by rw [hq20, hM.fail hhere (by omega)]; rfl, O301.below⟩
end GMatch_
export GMatch_ (Match_walk)
end Go.Proofs.YtelbgmpeghhakaaGreat.PA
end
section
namespace Go.Proofs.YtelbgmpeghhakaaGreat.PA
open Go.RowKit Go.Proofs.YtelbgmpeghhakaaGreatW.PrintWords Go.Proofs.YtelbgmpeghhakaaGreatW.PrintLast Go.Proofs.YtelbgmpeghhakaaGreatW.PrintMore
set_option linter.unusedVariables false
set_option linter.unusedSimpArgs false
theorem str_openF {W : World} {ok : Nat → Prop} {x : ByteArray} {cs : List Value} (h : Kd.FK Kd.string W ok x cs) : cs = [.string x] := Kd.FK_now h
abbrev nilS : Value := .slice none 0 0
def tabV : List (Int × Value) → Int → Value
  | [], _ => nilS
  | (y, v) :: r, x => if x = y then v else tabV r x
def tabC (t : List (Int × Value)) (tr : Value) : List Value := (List.range 256).map (fun j => tabV t (j : Nat)) ++ [tr]
theorem tabC_len (t : List (Int × Value)) (tr : Value) : (tabC t tr).length = 257 := by simp [tabC]
theorem tabC_get (t : List (Int × Value)) (tr : Value) (x : Int) (h : 0 ≤ x ∧ x < 256) : (tabC t tr).toArray[x.toNat]? = some (tabV t x) := by
  have hl : x.toNat < 256 := by omega
  rw [List.getElem?_toArray]
  unfold tabC
  rw [List.getElem?_append_left (by simpa using hl)]
  simp [hl, Int.toNat_of_nonneg h.1]
theorem tabC_last (t : List (Int × Value)) (tr : Value) : (tabC t tr).toArray[256]? = some tr := by
  rw [List.getElem?_toArray]
  unfold tabC
  rw [List.getElem?_append_right (by simp)]
  simp
theorem tabC_set (t : List (Int × Value)) (tr v : Value) (x : Int) (h : 0 ≤ x ∧ x < 256) : (tabC t tr).toArray.setIfInBounds x.toNat v = (tabC ((x, v) :: t) tr).toArray := by
  have hl : x.toNat < 256 := by omega
  rw [List.setIfInBounds_toArray]
  congr 1
  unfold tabC
  rw [List.set_append_left _ _ (by simpa using hl)]
  congr 1
  refine List.ext_getElem? fun j => ?_
  by_cases hj : j < 256
  · by_cases e : j = x.toNat
    · subst e
      rw [List.getElem?_set_self (by simpa using hl)]
      simp [hl, tabV, Int.toNat_of_nonneg h.1]
    · rw [List.getElem?_set_ne (fun h => e h.symm)]
      have : ¬ ((j : Int) = x) := by omega
      simp [hj, tabV, this]
  · rw [List.getElem?_eq_none (by simpa using hj), List.getElem?_eq_none (by simpa using hj)]
theorem tabC_setl (t : List (Int × Value)) (tr v : Value) : (tabC t tr).toArray.setIfInBounds 256 v = (tabC t v).toArray := by
  rw [List.setIfInBounds_toArray]
  unfold tabC
  have hl : ((List.range 256).map (fun j : Nat => tabV t (j : Nat))).length = 256 := by rw [List.length_map, List.length_range]
  generalize (List.range 256).map (fun j : Nat => tabV t (j : Nat)) = z at hl
  rw [List.set_append_right _ _ (by omega), show 256 - z.length = 0 by omega, List.set_cons_zero]
def specB (x : Int) : Bool := decide (x = 92) || decide (x = 91) || decide (x = 42) || decide (x = 63)
def quoteL (t : List Int) : List Int := t.flatMap fun x => if specB x then [92, x] else [x]
theorem quoteL_append (t t' : List Int) : quoteL (t ++ t') = quoteL t ++ quoteL t' := List.flatMap_append ..
theorem quoteL_one (x : Int) : quoteL [x] = if specB x then [92, x] else [x] := by simp [quoteL]
def Chunk.bsr (G : Nat) (S : Nat → Prop) (t : List (Int × Value)) (tr : Value) : Chunk :=
  ⟨S, fun w => w.heap[G]? = some (.cells (tabC t tr).toArray 108 (0, 0)) ∧ S G ∧ ∀ x : Int, 0 ≤ x → x < 256 → if specB x then ∃ ad cc, tabV t x = .slice (some ad) 2 cc ∧ 2 ≤ cc ∧ S ad.block ∧ ad.block < w.heap.size ∧ Kd.C (Kd.int .u8) w (some ad) 2 [92, x] else tabV t x = nilS,
   fun {w w1} ⟨h1, h2, h3⟩ hm => by
    refine ⟨(hm G h2).trans h1, h2, fun x x0 x1 => ?_⟩
    have h := h3 x x0 x1
    split
    · rename_i hs
      rw [if_pos hs] at h
      obtain ⟨ad, cc, e, hc, hS, hl, hC⟩ := h
      have hob := hm ad.block hS
      refine ⟨ad, cc, e, hc, hS, ?_, C_int_at hC fun _ ad' e' _ => by cases e'; exact hob⟩
      have : w.heap[ad.block]? = some w.heap[ad.block] := Array.getElem?_eq_getElem hl
      rw [← hob] at this
      exact (Array.getElem?_eq_some_iff.1 this).1
    · rename_i hs
      rw [if_neg hs] at h
      exact h⟩
theorem bsr_blk {G : Nat} {S : Nat → Prop} {t : List (Int × Value)} {tr : Value} {w : World} (h : (Chunk.bsr G S t tr).P w) : w.heap[G]? = some (.cells (tabC t tr).toArray 108 (0, 0)) := h.1
theorem bsr_spec {G : Nat} {S : Nat → Prop} {t : List (Int × Value)} {tr : Value} {w : World} (h : (Chunk.bsr G S t tr).P w) {x : Int} (h0 : 0 ≤ x ∧ x < 256) (hs : specB x = true) : ∃ ad cc, tabV t x = .slice (some ad) 2 cc ∧ 2 ≤ cc := by
  have := h.2.2 x h0.1 h0.2
  rw [if_pos hs] at this
  obtain ⟨ad, cc, e, hc, _⟩ := this
  exact ⟨ad, cc, e, hc⟩
theorem bsr_C {G : Nat} {S : Nat → Prop} {t : List (Int × Value)} {tr : Value} {w : World} (h : (Chunk.bsr G S t tr).P w) {x : Int} (h0 : 0 ≤ x ∧ x < 256) (hs : specB x = true) {ad : Addr} {cc : Nat} (e : tabV t x = .slice (some ad) 2 cc) : Kd.C (Kd.int .u8) w (some ad) 2 [92, x] := by
  have := h.2.2 x h0.1 h0.2
  rw [if_pos hs] at this
  obtain ⟨ad', cc', e', _, _, _, hC⟩ := this
  rw [e] at e'
  cases e'
  exact hC
theorem bsr_none {G : Nat} {S : Nat → Prop} {t : List (Int × Value)} {tr : Value} {w : World} (h : (Chunk.bsr G S t tr).P w) {x : Int} (h0 : 0 ≤ x ∧ x < 256) (hs : specB x = false) : tabV t x = nilS := by
  have := h.2.2 x h0.1 h0.2
  rw [if_neg (by rw [hs]; decide)] at this
  exact this
section
variable {P : Program} {o : Oper} {a : Act} {w : World} {x y : Operand} {t e : TypeId}
theorem op_indexA {g n : Nat} {k : IntKind} {i : Int} (ht : P.underlying t = some (.array n e)) (hS : ∀ w, (sizeOf e).run P w = .ok 1 w) (ho : o.op = .indexAddr t x y) (hx : a.eval x = .pointer (some ⟨g, 0, none⟩)) (hy : a.eval y = .int k i) (h : 0 ≤ i ∧ i < n) :
    Runs P o a w (.pointer (some ⟨g, i.toNat, none⟩)) w :=
  op_indexP ht hS ho hx hy h (by omega)
end
end Go.Proofs.YtelbgmpeghhakaaGreat.PA
end
section
namespace Go.Proofs
open Go.Shelf
def Tryz.lays219_ren : Go.Shelf.Ren := ⟨fun | 219 => 134 | 217 => 135 | 225 => 136 | 224 => 137 | 267 => 138 | 266 => 139 | 314 => 140 | n => n, fun | 9 => 9 | 3 => 3 | 4 => 4 | 5 => 5 | 46 => 93 | 146 => 202 | 51 => 71 | n => n, fun | 1 => 0 | n => n⟩
def Tryz.lays138_ren : Go.Shelf.Ren := ⟨fun | 138 => 130 | 195 => 131 | 218 => 132 | 143 => 133 | 219 => 134 | 217 => 135 | 225 => 136 | 224 => 137 | 267 => 138 | 266 => 139 | 314 => 140 | n => n, fun | 9 => 9 | 3 => 3 | 4 => 4 | 5 => 5 | 0 => 0 | 46 => 93 | 146 => 202 | 51 => 71 | n => n, fun | 1 => 0 | n => n⟩
theorem Tryz.lays138 : Go.Proofs.Lays.n138 Tryz.prog Tryz.lays138_ren := {
  mixed := by kernel_rfl
  f138 := Tryz.func130.trans (congrArg some (by kernel_rfl))
  f143 := Tryz.func133.trans (congrArg some (by kernel_rfl))
  f195 := Tryz.func131.trans (congrArg some (by kernel_rfl))
  f217 := Tryz.func135.trans (congrArg some (by kernel_rfl))
  f218 := Tryz.func132.trans (congrArg some (by kernel_rfl))
  f219 := Tryz.func134.trans (congrArg some (by kernel_rfl))
  f224 := Tryz.func137.trans (congrArg some (by kernel_rfl))
  f225 := Tryz.func136.trans (congrArg some (by kernel_rfl))
  f266 := Tryz.func139.trans (congrArg some (by kernel_rfl))
  f267 := Tryz.func138.trans (congrArg some (by kernel_rfl))
  f314 := Tryz.func140.trans (congrArg some (by kernel_rfl))
  t0 := Tryz.underlying0
  a0 := Tryz.isAgg0
  z0 := Tryz.sizeOf0
  v0 := Tryz.zeroValue0
  t3 := Tryz.underlying3
  a3 := Tryz.isAgg3
  z3 := Tryz.sizeOf3
  v3 := Tryz.zeroValue3
  t4 := Tryz.underlying4
  a4 := Tryz.isAgg4
  z4 := Tryz.sizeOf4
  v4 := Tryz.zeroValue4
  t5 := Tryz.underlying5
  a5 := Tryz.isAgg5
  z5 := Tryz.sizeOf5
  v5 := Tryz.zeroValue5
  t9 := Tryz.underlying9
  a9 := Tryz.isAgg9
  z9 := Tryz.sizeOf9
  v9 := Tryz.zeroValue9
  t46 := Tryz.underlying93
  a46 := Tryz.isAgg93
  z46 := Tryz.sizeOf93
  v46 := Tryz.zeroValue93
  t51 := Tryz.underlying71
  a51 := Tryz.isAgg71
  z51 := Tryz.sizeOf71
  v51 := Tryz.zeroValue71
  t146 := Tryz.underlying202
  a146 := Tryz.isAgg202
  z146 := Tryz.sizeOf202
  v146 := Tryz.zeroValue202
  g1 := by kernel_rfl }
open Go.RowKit Go.Lib in
theorem Tryz.strings_Count_one (s : ByteArray) (c : UInt8) (w : World) :
    Calls Tryz.prog 130 #[.string s, .string ⟨#[c]⟩] w fun e w' => e = .returned (.int .i64 (Lib.countByte s.data.toList c)) ∧ w' = w := Any.strings_Count_one Tryz.lays138 s c w
end Go.Proofs
end
section
namespace Go.Proofs.YtelbgmpeghhakaaGreat.PA
open Go.RowKit Go.Proofs.YtelbgmpeghhakaaGreatW.PrintWords Go.Proofs.YtelbgmpeghhakaaGreatW.PrintLast Go.Proofs.YtelbgmpeghhakaaGreatW.PrintMore
set_option linter.unusedVariables false
set_option linter.unusedSimpArgs false
theorem bsr_neq {G : Nat} {S : Nat → Prop} {t : List (Int × Value)} {tr : Value} {w' w : World} {P : Program} {ty et : TypeId} (ht : P.underlying ty = some (.slice et)) {x0 y0 : Operand} (h : (Chunk.bsr G S t tr).P w') {x : Int} (h0 : 0 ≤ x ∧ x < 256) : (do eqGuard .neq ty x0 y0 (tabV t x) (.slice none 0 0); binOp .neq ty (tabV t x) (.slice none 0 0) : Sem Value).run P w = .ok (.bool (specB x)) w := by
  cases hs : specB x with
  | true =>
    obtain ⟨ad, cc, e, _⟩ := bsr_spec h h0 hs
    rw [e]
    simp [eqGuard, binOp, go_sem, run_equal_slice_nil _ _ _ _ _ _ ht]
  | false =>
    rw [bsr_none h h0 hs]
    simp [eqGuard, binOp, go_sem, run_equal_slice_nil _ _ _ _ _ _ ht]
def spc (t : List Int) : Int := ((quoteL t).length : Int) - t.length
theorem spc_snoc (t : List Int) (x : Int) : spc (t ++ [x]) = spc t + (if specB x then 1 else 0) := by
  unfold spc
  rw [quoteL_append, quoteL_one, List.length_append, List.length_append]
  split <;> simp <;> omega
theorem spc_nonneg : ∀ t : List Int, 0 ≤ spc t ∧ spc t ≤ t.length
  | [] => ⟨Int.le_refl _, Int.le_refl _⟩
  | x :: t => by
    have ih := spc_nonneg t
    have e : quoteL (x :: t) = quoteL [x] ++ quoteL t := by rw [← quoteL_append]; rfl
    unfold spc at *
    rw [e, quoteL_one, List.length_append, List.length_cons]
    split <;> simp <;> omega
theorem spc_zero : ∀ t : List Int, spc t = 0 → quoteL t = t
  | [], _ => rfl
  | x :: t, h => by
    have ih := spc_nonneg t
    have e : quoteL (x :: t) = quoteL [x] ++ quoteL t := by rw [← quoteL_append]; rfl
    unfold spc at *
    rw [e, quoteL_one, List.length_append, List.length_cons] at h
    by_cases hs : specB x = true
    · rw [if_pos hs] at h; simp at h; omega
    · rw [if_neg hs] at h
      simp at h
      rw [e, quoteL_one, if_neg hs, spc_zero t (by unfold spc; omega)]
      rfl
def cntI (t : List Int) (c : Int) : Int := ((t.filter fun x => decide (x = c)).length : Int)
theorem cnt_spc : ∀ t : List Int, cntI t 92 + cntI t 91 + cntI t 42 + cntI t 63 = spc t
  | [] => rfl
  | x :: t => by
    have ih := cnt_spc t
    have e : quoteL (x :: t) = quoteL [x] ++ quoteL t := by rw [← quoteL_append]; rfl
    unfold spc cntI at *
    rw [e, quoteL_one, List.length_append, List.length_cons]
    by_cases h1 : x = 92
    · subst h1; simp [specB]; omega
    · by_cases h2 : x = 91
      · subst h2; simp [specB]; omega
      · by_cases h3 : x = 42
        · subst h3; simp [specB]; omega
        · by_cases h4 : x = 63
          · subst h4; simp [specB]; omega
          · simp [specB, h1, h2, h3, h4]; omega
theorem cnt_nonneg (t : List Int) (c : Int) : 0 ≤ cntI t c ∧ cntI t c ≤ t.length := by
  have := List.length_filter_le (fun x : Int => decide (x = c)) t
  unfold cntI
  omega
theorem count_cnt (s : ByteArray) (c : UInt8) (w : World) : Calls Tryz.prog 130 #[.string s, .string ⟨#[c]⟩] w fun e w' => e = .returned (.int .i64 (cntI (bytesOf s) c.toNat)) ∧ Below w.heap.size w w' := by
  refine (Tryz.strings_Count_one s c w).mono ?_
  rintro e w' ⟨rfl, rfl⟩
  refine ⟨?_, Below.refl _ _⟩
  congr 2
  unfold cntI bytesOf Lib.countByte
  rw [List.filter_map, List.length_map, List.count_eq_length_filter]
  congr 2
  refine List.filter_congr fun b _ => ?_
  simp only [Function.comp]
  rw [Bool.eq_iff_iff, beq_iff_eq, decide_eq_true_eq]
  exact ⟨fun h => by rw [h], fun h => UInt8.toNat_inj.1 (by exact Int.ofNat_inj.1 h)⟩
section
variable {P : Program} {o : Oper} {a : Act} {w : World} {x y lo : Operand} {t e : TypeId}
theorem op_cutat {g n c : Nat} {k : IntKind} {j : Int} (ht : P.underlying t = some (.slice e)) (hS : ∀ w, (sizeOf e).run P w = .ok 1 w) (ho : o.op = .slice t x (some lo) none none) (hx : a.eval x = .slice (some ⟨g, 0, none⟩) n c) (hlo : a.eval lo = .int k j) (h0 : 0 ≤ j) (h1 : j < n) (h2 : n ≤ c) :
    Runs P o a w (.slice (some ⟨g, j.toNat, none⟩) (n - j.toNat) (c - j.toNat)) w := by
  have hel : P.elem t = e := by simp [Program.elem, ht]
  have hu : P.underlying t = some (.slice (P.elem t)) := by rw [hel]; exact ht
  have h3 : ¬ c = j.toNat := by omega
  have h4 : j ≤ (n : Int) := by omega
  have hb : (Instr.sliceBounds true n c (some (.int k j)) none none).run P w = .ok (j.toNat, n, c) w := by
    simp [Instr.sliceBounds, Instr.sliceBound, go_sem, h0, h4]
  have hA : (⟨g, 0, none⟩ : Addr).add (j.toNat * 1) = ⟨g, j.toNat, none⟩ := by rw [Nat.mul_one, add_plain]
  have h5 : (Instr.slice t (.slice (some ⟨g, 0, none⟩) n c) (some (.int k j)) none none).run P w = .ok (.slice (some ⟨g, j.toNat, none⟩) (n - j.toNat) (c - j.toNat)) w := by
    unfold Instr.slice
    simp only [Sem.run_bind, run_underlying ht, Result.andThen_ok, hb, hS, Sem.run_pure]
    rw [if_neg h3, Option.map_some, hA]
  unfold Runs execOp
  simp only [ho, hx, Option.map_some, hlo, Option.map_none, Sem.run_bind, run_sliceAt_slice w t _ _ none none hu, h5, Result.andThen_ok, Sem.run_pure]
theorem row_form {α : Type} {d : Kd α} {e base n c : Nat} {S : Nat → Prop} {A : Option Addr} {xs : List α} {w : World} (h : d.R e w base S (.slice A n c) xs) (hp : 0 < xs.length) : ∃ g, A = some ⟨g, 0, none⟩ := by
  obtain ⟨g, cap, hv, _⟩ := Kd.R_form h hp
  injection hv with hA _ _
  exact ⟨g, hA⟩
end
section
variable {D : List Deferred} {P : Program} {ops : Array Oper} {Q : Exit → Act → World → Prop} {rest : List Oper} {o : Oper} {N dd : Nat} {a : Act} {F : List (Nat × Value)} {w w0 : World} {L : List Chunk}
theorem gw_copy2 {e base c n g cc : Nat} {S : Nat → Prop} {xs : List Int} {u v j : Int} {B : Option Addr} {t t' : TypeId} {x y : Operand} (i : Nat) (HF : FrD D N a F) (HO : Own w0 w L) (hi : L[i]? = some (Chunk.row (Kd.int .u8) e base S (.slice (some ⟨g, 0, none⟩) n c) xs)) (hw : Region.wanted o (yielded ops a.tmps) = true) (hd : o.dst = some dd) (hN : dd < N)
    (ho : o.op = .call { callee := .builtin .copy, args := #[x, y], argTypes := #[t, t'] }) (ht : P.underlying t = some (.slice e)) (hs : (P.info? e).map (·.size) = some 1)
    (hx : a.eval x = .slice (some ⟨g, j.toNat, none⟩) (n - j.toNat) (c - j.toNat)) (hy : a.eval y = .slice B 2 cc) (hC : Kd.C (Kd.int .u8) w B 2 [u, v]) (h0 : 0 ≤ j) (h1 : j + 2 ≤ xs.length)
    (k : ∀ a' w1, FrD D N a' ((dd, .int .i64 2) :: F) → Own w0 w1 (L.set i (Chunk.row (Kd.int .u8) e base S (.slice (some ⟨g, 0, none⟩) n c) ((xs.set j.toNat u).set (j.toNat + 1) v))) → wpList P ops Q rest a' w1) : wpList P ops Q (o :: rest) a w := by
  have hR : (Kd.int .u8).R e w base S (.slice (some ⟨g, 0, none⟩) n c) xs := HO.get i hi
  have hn : n = xs.length := (Kd.R_reads' hR).1
  subst hn
  obtain ⟨adB, hB, hcell⟩ := hC.2.2 (by omega)
  subst hB
  have e1 : ∀ q z, ([.int .u8 u, .int .u8 v] : List Value)[q]? = some z → w.cell? (adB.add q) = some z := by
    intro q z hq
    match q, hq with
    | 0, hq =>
      cases hq
      obtain ⟨c0, hl, hK, h⟩ := hcell 0 u rfl
      have := h 0 (.int .u8 u) (by rw [show c0 = [.int .u8 u] from hK]; rfl)
      simpa using this
    | 1, hq =>
      cases hq
      obtain ⟨c0, hl, hK, h⟩ := hcell 1 v rfl
      have := h 0 (.int .u8 v) (by rw [show c0 = [.int .u8 v] from hK]; rfl)
      simpa [show (Kd.int .u8).sz = 1 from rfl] using this
  have hcat : ∀ q : Nat, q < xs.length → w.cell? ⟨g, q, none⟩ = some (.int .u8 (rd xs q)) ∧ w.frozen? ⟨g, q, none⟩ = false := fun q hq => by
    have := Kd.R_cell (0 : Int) hR (q : Int) (by omega) (by omega)
    rw [show ((q : Int)).toNat = q by omega] at this
    exact this
  have hrun := run_copy_cells (P := P) w t t' o.type e g j.toNat (xs.length - j.toNat) (c - j.toNat) adB 2 cc [.int .u8 u, .int .u8 v] ht hs (by simp [Nat.min_def]; omega) e1 (fun q hq => by
    rw [(hcat (j.toNat + q) (by simp at hq; omega)).1]; rfl) (fun q hq => (hcat (j.toNat + q) (by simp at hq; omega)).2) (by simp [Value.oneCell'])
  have hR1 : (Kd.int .u8).R e (w.setCell ⟨g, j.toNat, none⟩ (.int .u8 u)) base S (.slice (some ⟨g, 0, none⟩) xs.length c) (xs.set j.toNat u) := (Kd.R_put hR j u).1
  have hg1 := (Kd.R_put hR j u).2
  have hR1' : (Kd.int .u8).R e (w.setCell ⟨g, j.toNat, none⟩ (.int .u8 u)) base S (.slice (some ⟨g, 0, none⟩) (xs.set j.toNat u).length c) (xs.set j.toNat u) := by rw [List.length_set]; exact hR1
  have h2 := Kd.R_put hR1' (j + 1) v
  rw [show (j + 1).toNat = j.toNat + 1 by omega, List.length_set] at h2
  have hruns : Runs P o a w (.int .i64 2) ((w.setCell ⟨g, j.toNat, none⟩ (.int .u8 u)).setCell ⟨g, j.toNat + 1, none⟩ (.int .u8 v)) := by
    unfold Runs execOp
    simp only [ho, resolve, invoke, builtin, Sem.run_bind, Sem.run_pure, Result.andThen_ok, List.map_toArray, List.map_cons, List.map_nil, hx, hy, hrun]
    rfl
  refine gw_ev HF hw hd hN hruns fun a' HF' => k a' _ HF' (HO.calls (cs := []) i hi (Out.one (((Out.refl w S).grown hg1 fun q hq => .inl (by injection hq with hq; subst hq; exact hR.1 g rfl)).grown h2.2 fun q hq => .inl (by injection hq with hq; subst hq; exact hR.1 g rfl)) h2.1 fun q hq => ⟨.inl hq, ?_⟩))
  have := (HO.lt i hi hq).2
  simpa [World.setCell] using this
end
end Go.Proofs.YtelbgmpeghhakaaGreat.PA
end
section
namespace Go.Proofs.YtelbgmpeghhakaaGreat.PA
open Go.RowKit Go.Proofs.YtelbgmpeghhakaaGreatW.PrintWords Go.Proofs.YtelbgmpeghhakaaGreatW.PrintLast Go.Proofs.YtelbgmpeghhakaaGreatW.PrintMore
set_option linter.unusedVariables false
set_option linter.unusedSimpArgs false
section
variable {P : Program} {o : Oper} {a : Act} {w : World} {t e nb : Nat} {l c : Operand} {α : Type} {enc : α → Value} {x0 : α} {n : Int}
theorem op_make (ht : P.underlying t = some (.slice e)) (hi : (P.info? e).map (fun i => (i.zero, i.size, i.bytes)) = some (some (enc x0), 1, nb)) (hz : (enc x0).cells = #[enc x0]) (ho : o.op = .makeSlice t l c) (hl : a.eval l = .int .i64 n) (hc : a.eval c = .int .i64 n) (h0 : 0 ≤ n) (hn : (nb : Int) * n ≤ 281474976710656 ∧ n ≤ 9223372036854775807) :
    Runs P o a w (.slice (some ⟨w.heap.size, 0, none⟩) (List.replicate n.toNat x0).length (List.replicate n.toNat x0).length) (w.alloc (.cells (encs enc (List.replicate n.toNat x0)).toArray e (0, 0))) := by
  obtain ⟨i, hi1, hi2⟩ := Option.map_eq_some_iff.1 hi
  simp only [Prod.mk.injEq] at hi2
  obtain ⟨hi3, hi4, hi5⟩ := hi2
  have hr := run_make (P := P) w t e i (enc x0) ht hi1 hi3 .i64 .i64 n n h0 (Int.le_refl _) (by rw [hi5]; exact hn.1) hn.2
  have hcells : madeCells (enc x0).cells (n.toNat * i.size) = (encs enc (List.replicate n.toNat x0)).toArray := by
    rw [hi4, hz, Nat.mul_one]
    apply Array.ext'
    simp [madeCells, encs, Array.toList_map, List.map_const', Nat.mod_one]
  rw [hcells] at hr
  unfold Runs execOp
  simp only [ho, hl, hc, Sem.run_bind, hr, Result.andThen_ok, Sem.run_pure, List.length_replicate]
end
end Go.Proofs.YtelbgmpeghhakaaGreat.PA
end
section
namespace Go.Proofs.YtelbgmpeghhakaaGreat.PA
open Go.RowKit Go.Proofs.YtelbgmpeghhakaaGreatW.PrintWords Go.Proofs.YtelbgmpeghhakaaGreatW.PrintLast Go.Proofs.YtelbgmpeghhakaaGreatW.PrintMore
set_option linter.unusedVariables false
set_option linter.unusedSimpArgs false
theorem takeB (s : ByteArray) (i : Int) (h : 0 ≤ i ∧ i < s.size) : (bytesOf s).take (i + 1).toNat = (bytesOf s).take i.toNat ++ [bt s i] := by
  have hl : i.toNat < (bytesOf s).length := by rw [bytesOf_length]; omega
  rw [show (i + 1).toNat = i.toNat + 1 by omega, List.take_add_one, List.getElem?_eq_getElem hl]
  have := rd_bytesOf s i
  unfold rd at this
  rw [← this, List.getD_eq_getElem?_getD, List.getElem?_eq_getElem hl]
  rfl
theorem takeB_all (s : ByteArray) (i : Int) (h : (s.size : Int) ≤ i) : (bytesOf s).take i.toNat = bytesOf s := List.take_of_length_le (by rw [bytesOf_length]; omega)
theorem quote_le (t : List Int) (m : Nat) : (quoteL (t.take m)).length ≤ (quoteL t).length := by
  conv => rhs; rw [← List.take_append_drop m t, quoteL_append, List.length_append]
  omega
theorem quote_len (s : ByteArray) : ((quoteL (bytesOf s)).length : Int) = s.size + spc (bytesOf s) := by
  unfold spc
  rw [bytesOf_length]
  omega
theorem set1_take (X : List Int) (j : Nat) (u : Int) (h : j < X.length) : (X.set j u).take (j + 1) = X.take j ++ [u] := by
  rw [List.take_add_one, List.getElem?_set_self h, List.take_set, List.set_eq_of_length_le (by rw [List.length_take]; omega)]
  rfl
theorem set2_take (X : List Int) (j : Nat) (u v : Int) (h : j + 2 ≤ X.length) : ((X.set j u).set (j + 1) v).take (j + 2) = X.take j ++ [u, v] := by
  rw [set1_take _ (j + 1) v (by rw [List.length_set]; omega), set1_take X j u (by omega), List.append_assoc]
  rfl
def cqI (t : List Int) (q : Int) : Int := (if 0 < q then cntI t 92 else 0) + (if 1 < q then cntI t 91 else 0) + (if 2 < q then cntI t 42 else 0) + (if 3 < q then cntI t 63 else 0)
theorem cq0 (t : List Int) : cqI t 0 = 0 := rfl
theorem cq1 (t : List Int) : cqI t 1 = cntI t 92 := by simp [cqI]
theorem cq2 (t : List Int) : cqI t 2 = cntI t 92 + cntI t 91 := by simp [cqI]
theorem cq3 (t : List Int) : cqI t 3 = cntI t 92 + cntI t 91 + cntI t 42 := by simp [cqI]
theorem cq4 (t : List Int) : cqI t 4 = spc t := by rw [← cnt_spc]; simp [cqI]
theorem count_x (s : ByteArray) (c : UInt8) (x : Int) (w : World) (hx : (c.toNat : Int) = x) : Calls Tryz.prog 130 #[.string s, .string ⟨#[c]⟩] w fun e w' => e = .returned (.int .i64 (cntI (bytesOf s) x)) ∧ Below w.heap.size w w' := by
  subst hx
  exact count_cnt s c w
theorem strOf_bytes (s : ByteArray) : strOfNums (bytesOf s) = s := by
  unfold strOfNums bytesOf
  rw [List.map_map]
  have : (s.data.toList.map ((fun x : Int => UInt8.ofNat x.toNat) ∘ fun b => (b.toNat : Int))) = s.data.toList := by
    conv => rhs; rw [← List.map_id s.data.toList]
    exact List.map_congr_left fun b _ => by simp
  have h2 := congrArg (fun l : List UInt8 => (⟨l.toArray⟩ : ByteArray)) this
  exact h2.trans (by rw [Array.toArray_toList])
def quoteB (s : ByteArray) : ByteArray := strOfNums (quoteL (bytesOf s))
abbrev TRL : List ByteArray := [(⟨#[92]⟩ : ByteArray), (⟨#[91]⟩ : ByteArray), (⟨#[42]⟩ : ByteArray), (⟨#[63]⟩ : ByteArray)]
end Go.Proofs.YtelbgmpeghhakaaGreat.PA
end
