/- The row of the law VfsPlays: for every input the call returns true and leaves its arguments as they were. Printed by a program of this session. -/
/- What this claim uses of this session's own texts, put together by a program: GRef3 HPlays GVfsP0 HKinds GVfsD GVfsP HOpen Ty45 StmtVfsPlays PureVfsPlays LawVfsPlays. -/
import Derived.Test.YtkdahjnmldeklaaKVfsPlays2
import Derived.Test.YtkdahjnmldeklaaProg
import Derived.Test.YtkdahjnmldeklaaRows
section
namespace Go.Proofs.Ytkdahjnmldeklaa.PA
open Go.RowKit Go.Proofs.YtkdahjnmldeklaaW.PrintWords Go.Proofs.YtkdahjnmldeklaaW.PrintLast Go.Proofs.YtkdahjnmldeklaaW.PrintMore
set_option linter.unusedVariables false
set_option linter.unusedSimpArgs false
namespace GRef3_
theorem gwagg28 : ∀ w, (isAgg 28).run Try.prog w = .ok false w := fun _ => by kernel_rfl
theorem gwagg3 : ∀ w, (isAgg 3).run Try.prog w = .ok false w := fun _ => by kernel_rfl
theorem gwagg4 : ∀ w, (isAgg 4).run Try.prog w = .ok false w := fun _ => by kernel_rfl
theorem gwagg48 : ∀ w, (isAgg 48).run Try.prog w = .ok false w := fun _ => by kernel_rfl
theorem gwagg50 : ∀ w, (isAgg 50).run Try.prog w = .ok true w := fun _ => by kernel_rfl
theorem gwagg93 : ∀ w, (isAgg 93).run Try.prog w = .ok true w := fun _ => by kernel_rfl
theorem gwfld50_0 (g off : Nat) : ∀ w, (Instr.fieldAt 50 (.pointer (some ⟨g, off, none⟩)) 0).run Try.prog w = .ok (.pointer (some ⟨g, off + 0, none⟩)) w := fun _ => by kernel_rfl
theorem gwfld50_2 (g off : Nat) : ∀ w, (Instr.fieldAt 50 (.pointer (some ⟨g, off, none⟩)) 2).run Try.prog w = .ok (.pointer (some ⟨g, off + 2, none⟩)) w := fun _ => by kernel_rfl
theorem gwfld50_3 (g off : Nat) : ∀ w, (Instr.fieldAt 50 (.pointer (some ⟨g, off, none⟩)) 3).run Try.prog w = .ok (.pointer (some ⟨g, off + 3, none⟩)) w := fun _ => by kernel_rfl
theorem gwfld93_1 (g off : Nat) : ∀ w, (Instr.fieldAt 93 (.pointer (some ⟨g, off, none⟩)) 1).run Try.prog w = .ok (.pointer (some ⟨g, off + 1, none⟩)) w := fun _ => by kernel_rfl
theorem gwfld93_2 (g off : Nat) : ∀ w, (Instr.fieldAt 93 (.pointer (some ⟨g, off, none⟩)) 2).run Try.prog w = .ok (.pointer (some ⟨g, off + 2, none⟩)) w := fun _ => by kernel_rfl
theorem gwflda93_1 (ad : Addr) : ∀ w, (Instr.fieldAt 93 (.pointer (some ad)) 1).run Try.prog w = .ok (.pointer (some (ad.add 1))) w := fun _ => by kernel_rfl
theorem gwinfo93 : (Try.prog.info? 93).map (fun i => (i.zero, i.size, i.bytes)) = some (some (.agg #[.string (⟨#[]⟩ : ByteArray), .slice none 0 0, .int .i64 0]), 3, 48) := by kernel_rfl
theorem gwsiz28 : ∀ w, (sizeOf 28).run Try.prog w = .ok 1 w := fun _ => by kernel_rfl
theorem gwsiz3 : ∀ w, (sizeOf 3).run Try.prog w = .ok 1 w := fun _ => by kernel_rfl
theorem gwsiz4 : ∀ w, (sizeOf 4).run Try.prog w = .ok 1 w := fun _ => by kernel_rfl
theorem gwsiz48 : ∀ w, (sizeOf 48).run Try.prog w = .ok 1 w := fun _ => by kernel_rfl
theorem gwsiz5 : ∀ w, (sizeOf 5).run Try.prog w = .ok 1 w := fun _ => by kernel_rfl
theorem gwsiz50 : ∀ w, (sizeOf 50).run Try.prog w = .ok 4 w := fun _ => by kernel_rfl
theorem gwsiz93 : ∀ w, (sizeOf 93).run Try.prog w = .ok 3 w := fun _ => by kernel_rfl
theorem gwzer50 : ∀ w, (zeroValue 50).run Try.prog w = .ok (.agg #[.slice none 0 0, .int .i64 0, .int .i64 0, .bool false]) w := fun _ => by kernel_rfl
theorem gwzer93 : ∀ w, (zeroValue 93).run Try.prog w = .ok (.agg #[.string (⟨#[]⟩ : ByteArray), .slice none 0 0, .int .i64 0]) w := fun _ => by kernel_rfl
set_option maxHeartbeats 4000000 in
set_option maxRecDepth 100000 in
theorem between_calls (n lo hi : Int) (w : World) (h : lo ≤ hi) :
    Calls Try.prog 57 #[.int .i64 n, .int .i64 lo, .int .i64 hi] w fun e w' => e = .returned (.int .i64 (mn (mx n lo) hi)) ∧ Below w.heap.size w w' := by
 refine gw_start (N := 16) (vs := [J n, J lo, J hi]) Try.func57 rfl rfl (by simp) fun a HF HO => ?_
 replace HO : Own w w [] := HO
 refine gw_seq fun K1 hK1 => ?_
 refine wp_region_lit ?_
 refine V HF (op_assign rfl (ev_c _ _)) ?_
 intro _ H3; clear HF
 refine wpList_nil ?_
 refine gw_nx (hK1 _ _ ?_)
 refine gw_seq fun K4 hK4 => ?_
 refine gw_seq fun K5 hK5 => ?_
 refine wp_region_lit ?_
 refine V H3 (op_move rfl (H3.ev rfl)) ?_
 intro _ H7; clear H3
 refine V H7 (op_move rfl (H7.ev rfl)) ?_
 intro _ H9; clear H7
 refine V H9 (op_lss rfl (H9.ev rfl) (H9.ev rfl)) ?_
 intro _ H11; clear H9
 refine wpList_nil ?_
 refine gw_nx (hK5 _ _ ?_)
 refine gw_cond H11 rfl (fun hb12 => ?_) (fun hb12 => ?_)
 ·
  have H13 := H11.subst_ (d := 9) (b := true) rfl hb12
  clear H11
  (try simp only [decide_eq_true_eq] at hb12)
  refine gw_seq fun K14 hK14 => ?_
  refine wp_region_lit ?_
  refine V H13 (op_move rfl (H13.ev rfl)) ?_
  intro _ H16; clear H13
  refine V H16 (op_assign rfl (H16.ev rfl)) ?_
  intro _ H18; clear H16
  refine wpList_nil ?_
  refine gw_nx (hK14 _ _ ?_)
  refine wp_ret ?_
  refine gw_thr ?_
  refine gw_ret1 H18 rfl rfl ?_
  exact ⟨by congr 2; unfold mn mx; (repeat' split) <;> omega, HO.below⟩
 ·
  have H19 := H11.subst_ (d := 9) (b := false) rfl hb12
  clear H11
  (try simp only [decide_eq_false_iff_not, Int.not_lt] at hb12)
  refine wp_skip ?_
  refine gw_nx (hK4 _ _ ?_)
  refine gw_seq fun K20 hK20 => ?_
  refine gw_seq fun K21 hK21 => ?_
  refine wp_region_lit ?_
  refine V H19 (op_move rfl (H19.ev rfl)) ?_
  intro _ H23; clear H19
  refine V H23 (op_move rfl (H23.ev rfl)) ?_
  intro _ H25; clear H23
  refine V H25 (op_gtr rfl (H25.ev rfl) (H25.ev rfl)) ?_
  intro _ H27; clear H25
  refine wpList_nil ?_
  refine gw_nx (hK21 _ _ ?_)
  refine gw_cond H27 rfl (fun hb28 => ?_) (fun hb28 => ?_)
  ·
   have H29 := H27.subst_ (d := 13) (b := true) rfl hb28
   clear H27
   (try simp only [decide_eq_true_eq] at hb28)
   refine gw_seq fun K30 hK30 => ?_
   refine wp_region_lit ?_
   refine V H29 (op_move rfl (H29.ev rfl)) ?_
   intro _ H32; clear H29
   refine V H32 (op_assign rfl (H32.ev rfl)) ?_
   intro _ H34; clear H32
   refine wpList_nil ?_
   refine gw_nx (hK30 _ _ ?_)
   refine wp_ret ?_
   refine gw_thr ?_
   refine gw_ret1 H34 rfl rfl ?_
   exact ⟨by congr 2; unfold mn mx; (repeat' split) <;> omega, HO.below⟩
  ·
   have H35 := H27.subst_ (d := 13) (b := false) rfl hb28
   clear H27
   (try simp only [decide_eq_false_iff_not, Int.not_lt] at hb28)
   refine wp_skip ?_
   refine gw_nx (hK20 _ _ ?_)
   refine gw_seq fun K36 hK36 => ?_
   refine wp_region_lit ?_
   refine V H35 (op_move rfl (H35.ev rfl)) ?_
   intro _ H38; clear H35
   refine V H38 (op_assign rfl (H38.ev rfl)) ?_
   intro _ H40; clear H38
   refine wpList_nil ?_
   refine gw_nx (hK36 _ _ ?_)
   refine wp_ret ?_
   refine gw_ret1 H40 rfl rfl ?_
   exact ⟨by congr 2; unfold mn mx; (repeat' split) <;> omega, HO.below⟩
set_option maxHeartbeats 4000000 in
set_option maxRecDepth 100000 in
theorem crash_ref (P : Nat → Prop) (Af : Option Addr) (cf : Nat) (files : List S93) (most fuse : Int) (down : Bool) (Ak : Option Addr) (ck : Nat) (keep : List Int) (w : World) (hP : ∀ k, P k → k < w.heap.size) (hF : Kd.F k93 w P Af files.length files) (hcf : files.length ≤ cf) (hlf : files.length ≤ 1000000) (hk : Kd.C (Kd.int .i64) w Ak keep.length keep) (hck : keep.length ≤ ck) (hsf0 : ∀ x ∈ files, 0 ≤ x.f2 ∧ x.f2 ≤ x.f1.length ∧ x.f1.length ≤ 140737488355327) :
    Calls Try.prog 28 #[.agg #[.slice Af files.length cf, .int .i64 most, .int .i64 fuse, .bool down], .slice Ak keep.length ck] w fun e w' => ∃ files' A' c', files'.map ofS = (crashF (files.map ofS) keep).1 ∧ e = .returned (.agg #[.slice A' files'.length c', .int .i64 most, .int .i64 0, .bool false]) ∧ Kd.V k93 93 w' w.heap.size (fun k => P k ∨ w.heap.size ≤ k) (.slice A' files'.length c') files' ∧ Below w.heap.size w w' ∧ ∀ ad, A' = some ad → (P ad.block ∨ w.heap.size ≤ ad.block) ∧ ad.block < w'.heap.size := by
 refine gw_start (N := 65) (vs := [.agg #[.slice Af files.length cf, J most, J fuse, .bool down], .slice Ak keep.length ck]) Try.func28 rfl rfl (by simp) fun a HF HO => ?_
 replace HO : Own w w [] := HO
 refine gw_seq fun K1 hK1 => ?_
 refine wp_region_lit ?_
 refine gw_new HF HO (want_none rfl) rfl (by decide) (op_box rfl (HF.ev rfl)) ?_
 intro g2 _ w4 H5 O6; clear HF HO
 have O7 : Own w w4 [Bk g2 [.slice Af files.length cf, J most, J fuse, .bool down] 50] := O6
 clear O6
 refine gw_new H5 O7 (want_none rfl) rfl (by decide) (op_alloc gwzer50 rfl) ?_
 intro g8 _ w10 H11 O12; clear H5 O7
 have O13 : Own w w10 [Bk g8 [.slice none 0 0, J 0, J 0, .bool false] 50, Bk g2 [.slice Af files.length cf, J most, J fuse, .bool down] 50] := O12
 clear O12
 refine wpList_nil ?_
 refine gw_nx (hK1 _ _ ?_)
 refine gw_seq fun K14 hK14 => ?_
 refine wp_region_lit ?_
 refine V H11 (op_field (gwfld50_3 _ _) rfl (H11.ev rfl)) ?_
 intro _ H16; clear H11
 refine gw_set 1 H16 O13 rfl (want_none rfl) rfl (op_store1 gwsiz4 rfl (H16.ev rfl) (ev_c _ _) rfl (blk_at (O13.get 1 rfl) rfl) (blkf (O13.get 1 rfl))) ?_
 intro _ w19 H18 O20; clear H16 O13
 have O21 : Own w w19 [Bk g8 [.slice none 0 0, J 0, J 0, .bool false] 50, Bk g2 [.slice Af files.length cf, J most, J fuse, .bool false] 50] := O20
 clear O20
 refine wpList_nil ?_
 refine gw_nx (hK14 _ _ ?_)
 refine gw_seq fun K22 hK22 => ?_
 refine wp_region_lit ?_
 refine V H18 (op_field (gwfld50_2 _ _) rfl (H18.ev rfl)) ?_
 intro _ H24; clear H18
 refine gw_set 1 H24 O21 rfl (want_none rfl) rfl (op_store1 gwsiz3 rfl (H24.ev rfl) (ev_c _ _) rfl (blk_at (O21.get 1 rfl) rfl) (blkf (O21.get 1 rfl))) ?_
 intro _ w27 H26 O28; clear H24 O21
 have O29 : Own w w27 [Bk g8 [.slice none 0 0, J 0, J 0, .bool false] 50, Bk g2 [.slice Af files.length cf, J most, J 0, .bool false] 50] := O28
 clear O28
 refine wpList_nil ?_
 refine gw_nx (hK22 _ _ ?_)
 refine gw_seq fun K30 hK30 => ?_
 refine wp_region_lit ?_
 refine gw_plit0 k93 P (e := 93) H26 O29 (want_none rfl) rfl (by decide) (op_bslice (by kernel_rfl) rfl pt_nil) hP ?_
 intro A31 S32 _ w34 H35 O36; clear H26 O29
 have O37 : Own w w34 [Chunk.prow w P k93 93 w.heap.size S32 (.slice A31 (([] : List S93).length) 0) ([] : List S93), Bk g8 [.slice none 0 0, J 0, J 0, .bool false] 50, Bk g2 [.slice Af files.length cf, J most, J 0, .bool false] 50] := O36
 clear O36
 refine V H35 (op_assign rfl (H35.ev rfl)) ?_
 intro _ H39; clear H35
 refine wpList_nil ?_
 refine gw_nx (hK30 _ _ ?_)
 refine gw_seq fun K40 hK40 => ?_
 refine wp_region_lit ?_
 refine V H39 (op_assign rfl (ev_c _ _)) ?_
 intro _ H42; clear H39
 refine wpList_nil ?_
 refine gw_nx (hK40 _ _ ?_)
 refine gw_seq fun K43 hK43 => ?_
 refine gw_seq fun K44 hK44 => ?_
 refine wp_region_lit ?_
 refine V H42 (op_assign rfl (ev_c _ _)) ?_
 intro _ H46; clear H42
 refine wpList_nil ?_
 refine gw_nx (hK44 _ _ ?_)
 refine wp_block ?_
 refine gw_loop (fun m_ a_ w_ => ∃ (i : Int) (out : List S93) (Ao : Option Addr) (co : Nat) (So : Nat → Prop) (at_ : Int), Fr 65 a_ [(7, J i), (5, .slice Ao out.length co), (6, J at_), (1, .slice Ak keep.length ck), (2, .pointer (some ⟨g2, 0, none⟩)), (4, .pointer (some ⟨g8, 0, none⟩))] ∧ Own w w_ [Chunk.prow w P k93 93 w.heap.size So (.slice Ao out.length co) out, Bk g8 [.slice none 0 0, J 0, J 0, .bool false] 50, Bk g2 [.slice Af files.length cf, J most, J 0, .bool false] 50] ∧ (0 ≤ i ∧ i ≤ files.length) ∧ (0 ≤ at_ ∧ at_ ≤ i) ∧ (out.map ofS ++ (crashF ((files.drop i.toNat).map ofS) (keep.drop at_.toNat)).1 = (crashF (files.map ofS) keep).1) ∧ ((out.length : Int) = i) ∧ m_ = (files.length - i.toNat)) ((files.length - (0 : Int).toNat)) ?_ ?_
 ·
  refine ⟨0, [], A31, 0, _, 0, (H46.pick (t := 7) rfl (H46.pick (t := 5) rfl (H46.pick (t := 6) rfl (H46.pick (t := 1) rfl (H46.pick (t := 2) rfl (H46.pick (t := 4) rfl H46.nil)))))), O37.sel [0, 1, 2] (by decide), ?_, ?_, ?_, ?_, rfl⟩
  ·
   omega
  ·
   omega
  ·
   simp
  ·
   simp
 ·
  rintro m48 _ w50 ⟨i, out, Ao, co, So, at_, H51, O52, hi, hat, hW, hlo, hm53⟩
  refine gw_seq fun K54 hK54 => ?_
  refine gw_seq fun K55 hK55 => ?_
  refine wp_region_lit ?_
  refine V H51 (op_move rfl (H51.ev rfl)) ?_
  intro _ H57; clear H51
  refine V H57 (op_field (gwfld50_0 _ _) rfl (H57.ev rfl)) ?_
  intro _ H59; clear H57
  refine V H59 (op_load1 gwagg48 rfl (H59.ev rfl) (blk_at (O52.get 2 rfl) rfl)) ?_
  intro _ H61; clear H59
  refine V H61 (op_len Try.underlying48 rfl (H61.ev rfl)) ?_
  intro _ H63; clear H61
  refine V H63 (op_lss rfl (H63.ev rfl) (H63.ev rfl)) ?_
  intro _ H65; clear H63
  refine wpList_nil ?_
  refine gw_nx (hK55 _ _ ?_)
  refine gw_cond H65 rfl (fun hb66 => ?_) (fun hb66 => ?_)
  ·
   have H67 := H65.subst_ (d := 18) (b := true) rfl hb66
   clear H65
   (try simp only [decide_eq_true_eq] at hb66)
   refine wp_skip ?_
   refine gw_nx (hK54 _ _ ?_)
   refine gw_seq fun K68 hK68 => ?_
   refine wp_block ?_
   refine gw_seq fun K69 hK69 => ?_
   refine wp_region_lit ?_
   refine V H67 (op_field (gwfld50_0 _ _) rfl (H67.ev rfl)) ?_
   intro _ H71; clear H67
   refine V H71 (op_load1 gwagg48 rfl (H71.ev rfl) (blk_at (O52.get 2 rfl) rfl)) ?_
   intro _ H73; clear H71
   refine V H73 (op_move rfl (H73.ev rfl)) ?_
   intro _ H75; clear H73
   obtain ⟨ad76, cs79, hA77, hl80, hK81, hc78, _⟩ := Kd.F_get hF z93 i (by omega) (by omega)
   obtain ⟨A82, c83, rfl, hl84, hC85⟩ := k93_openF hK81
   clear hl80
   refine V H75 (op_index Try.underlying48 gwsiz93 rfl (H75.ev rfl) (H75.ev rfl) hA77 (⟨by omega, by omega⟩)) ?_
   intro _ H87; clear H75
   refine V H87 (op_loadc gwagg93 gwsiz93 rfl (H87.ev rfl) rfl (cells0 O52 hc78)) ?_
   intro _ H89; clear H87
   have hsf := hsf0 (files.getD i.toNat z93) (getD_mem files i.toNat (by omega))
   have hdo := drop_of z93 (show i.toNat < files.length by omega)
   refine gw_new H89 O52 (want_none rfl) rfl (by decide) (op_alloc gwzer93 rfl) ?_
   intro g90 _ w92 H93 O94; clear H89 O52
   have O95 : Own w w92 [Bk g90 [.string (⟨#[]⟩ : ByteArray), .slice none 0 0, J 0] 93, Chunk.prow w P k93 93 w.heap.size So (.slice Ao out.length co) out, Bk g8 [.slice none 0 0, J 0, J 0, .bool false] 50, Bk g2 [.slice Af files.length cf, J most, J 0, .bool false] 50] := O94
   clear O94
   refine gw_setn 0 H93 O95 rfl (want_none rfl) rfl (op_storen gwsiz93 rfl (H93.ev rfl) (H93.ev rfl) (O95.get 0 rfl) rfl (by simp) (by simp [Value.oneCell'])) ?_
   intro _ w98 H97 O99; clear H93 O95
   have O100 : Own w w98 [Bk g90 [.string ((files.getD i.toNat z93).f0), .slice A82 ((files.getD i.toNat z93).f1.length) c83, J ((files.getD i.toNat z93).f2)] 93, Chunk.prow w P k93 93 w.heap.size So (.slice Ao out.length co) out, Bk g8 [.slice none 0 0, J 0, J 0, .bool false] 50, Bk g2 [.slice Af files.length cf, J most, J 0, .bool false] 50] := O99
   clear O99
   refine wpList_nil ?_
   refine gw_nx (hK69 _ _ ?_)
   refine gw_seq fun K101 hK101 => ?_
   refine wp_region_lit ?_
   refine V H97 (op_field (gwfld93_1 _ _) rfl (H97.ev rfl)) ?_
   intro _ H103; clear H97
   refine V H103 (op_load1 gwagg28 rfl (H103.ev rfl) (blk_at (O100.get 0 rfl) rfl)) ?_
   intro _ H105; clear H103
   refine V H105 (op_len Try.underlying28 rfl (H105.ev rfl)) ?_
   intro _ H107; clear H105
   refine V H107 (op_field (gwfld93_2 _ _) rfl (H107.ev rfl)) ?_
   intro _ H109; clear H107
   refine V H109 (op_load1 gwagg3 rfl (H109.ev rfl) (blk_at (O100.get 0 rfl) rfl)) ?_
   intro _ H111; clear H109
   refine V H111 (op_sub rfl (H111.ev rfl) (H111.ev rfl) (by omega)) ?_
   intro _ H113; clear H111
   refine V H113 (op_assign rfl (H113.ev rfl)) ?_
   intro _ H115; clear H113
   refine wpList_nil ?_
   refine gw_nx (hK101 _ _ ?_)
   refine gw_seq fun K116 hK116 => ?_
   refine gw_seq fun K117 hK117 => ?_
   refine wp_region_lit ?_
   refine V H115 (op_move rfl (H115.ev rfl)) ?_
   intro _ H119; clear H115
   refine V H119 (op_gtr rfl (H119.ev rfl) (ev_c _ _)) ?_
   intro _ H121; clear H119
   refine wpList_nil ?_
   refine gw_nx (hK117 _ _ ?_)
   refine gw_cond H121 rfl (fun hb122 => ?_) (fun hb122 => ?_)
   ·
    have H123 := H121.subst_ (d := 33) (b := true) rfl hb122
    clear H121
    (try simp only [decide_eq_true_eq] at hb122)
    refine gw_seq fun K124 hK124 => ?_
    refine wp_region_lit ?_
    refine V H123 (op_assign rfl (ev_c _ _)) ?_
    intro _ H126; clear H123
    refine wpList_nil ?_
    refine gw_nx (hK124 _ _ ?_)
    refine gw_seq fun K127 hK127 => ?_
    refine gw_seq fun K128 hK128 => ?_
    refine wp_region_lit ?_
    refine V H126 (op_move rfl (H126.ev rfl)) ?_
    intro _ H130; clear H126
    refine V H130 (op_move rfl (H130.ev rfl)) ?_
    intro _ H132; clear H130
    refine V H132 (op_len Try.underlying32 rfl (H132.ev rfl)) ?_
    intro _ H134; clear H132
    refine V H134 (op_lss rfl (H134.ev rfl) (H134.ev rfl)) ?_
    intro _ H136; clear H134
    refine wpList_nil ?_
    refine gw_nx (hK128 _ _ ?_)
    refine gw_cond H136 rfl (fun hb137 => ?_) (fun hb137 => ?_)
    ·
     have H138 := H136.subst_ (d := 37) (b := true) rfl hb137
     clear H136
     (try simp only [decide_eq_true_eq] at hb137)
     have h1_ : ¬ ((files.getD i.toNat z93).f1.length : Int) - (files.getD i.toNat z93).f2 = 0 := by omega
     have hkn1 : keepN (keep.drop at_.toNat) (((files.getD i.toNat z93).f1.length : Int) - (files.getD i.toNat z93).f2) = (mn (mx (keep.getD at_.toNat (0 : Int)) 0) (((files.getD i.toNat z93).f1.length : Int) - (files.getD i.toNat z93).f2)) := keepN_at (by omega)
     have hke : 0 ≤ keepN (keep.drop at_.toNat) (((files.getD i.toNat z93).f1.length : Int) - (files.getD i.toNat z93).f2) ∧ keepN (keep.drop at_.toNat) (((files.getD i.toNat z93).f1.length : Int) - (files.getD i.toNat z93).f2) ≤ (((files.getD i.toNat z93).f1.length : Int) - (files.getD i.toNat z93).f2) := keepN_in _ (by omega)
     rw [hkn1] at hke
     have hkd : (keep.drop at_.toNat).drop 1 = keep.drop (at_ + 1).toNat := by rw [List.drop_drop]; congr 1; omega
     have hl2 : (((files.getD i.toNat z93).f1.take ((files.getD i.toNat z93).f2 + (mn (mx (keep.getD at_.toNat (0 : Int)) 0) (((files.getD i.toNat z93).f1.length : Int) - (files.getD i.toNat z93).f2))).toNat).length : Int) = (files.getD i.toNat z93).f2 + (mn (mx (keep.getD at_.toNat (0 : Int)) 0) (((files.getD i.toNat z93).f1.length : Int) - (files.getD i.toNat z93).f2)) := by rw [List.length_take]; omega
     refine wp_region_lit ?_
     refine V H138 (op_move rfl (H138.ev rfl)) ?_
     intro _ H140; clear H138
     refine V H140 (op_move rfl (H140.ev rfl)) ?_
     intro _ H142; clear H140
     obtain ⟨ad143, cs146, hA144, hl147, hK148, hc145⟩ := Kd.C_get hk (0 : Int) at_ (by omega) (by omega)
     obtain rfl := id hK148
     clear hl147
     refine V H142 (op_index Try.underlying32 gwsiz3 rfl (H142.ev rfl) (H142.ev rfl) hA144 (⟨by omega, by omega⟩)) ?_
     intro _ H150; clear H142
     refine V H150 (op_load1 gwagg3 rfl (H150.ev rfl) (O100.cell0 (at0 hc145))) ?_
     intro _ H152; clear H150
     refine V H152 (op_move rfl (H152.ev rfl)) ?_
     intro _ H154; clear H152
     refine gw_call H154 (want_none rfl) rfl (by decide) (op_callL Try.func57 (by kernel_rfl) rfl rfl (ar_cons (H154.ev rfl) (ar_cons (ev_c _ _) (ar_cons (H154.ev rfl) ar_nil)))) (between_calls (keep.getD at_.toNat (0 : Int)) 0 ((((files.getD i.toNat z93).f1.length) : Int) - ((files.getD i.toNat z93).f2)) _ (by omega)) ?_
     rintro e155 w156 ⟨rfl, hb157⟩
     refine ⟨_, rfl, fun _ H159 => ?_⟩
     have O160 := O100.after hb157
     clear H154 O100 hb157
     refine V H159 (op_assign rfl (H159.ev rfl)) ?_
     intro _ H163; clear H159
     refine wpList_nil ?_
     refine gw_nx (hK127 _ _ ?_)
     refine gw_seq fun K164 hK164 => ?_
     refine wp_region_lit ?_
     refine V H163 (op_move rfl (H163.ev rfl)) ?_
     intro _ H166; clear H163
     refine V H166 (op_add rfl (H166.ev rfl) (ev_c _ _) (by omega)) ?_
     intro _ H168; clear H166
     refine V H168 (op_assign rfl (H168.ev rfl)) ?_
     intro _ H170; clear H168
     refine wpList_nil ?_
     refine gw_nx (hK164 _ _ ?_)
     refine gw_seq fun K171 hK171 => ?_
     refine wp_region_lit ?_
     refine V H170 (op_field (gwfld93_1 _ _) rfl (H170.ev rfl)) ?_
     intro _ H173; clear H170
     refine V H173 (op_load1 gwagg28 rfl (H173.ev rfl) (blk_at (O160.get 0 rfl) rfl)) ?_
     intro _ H175; clear H173
     refine V H175 (op_field (gwfld93_2 _ _) rfl (H175.ev rfl)) ?_
     intro _ H177; clear H175
     refine V H177 (op_load1 gwagg3 rfl (H177.ev rfl) (blk_at (O160.get 0 rfl) rfl)) ?_
     intro _ H179; clear H177
     refine V H179 (op_move rfl (H179.ev rfl)) ?_
     intro _ H181; clear H179
     refine V H181 (op_add rfl (H181.ev rfl) (H181.ev rfl) (by omega)) ?_
     intro _ H183; clear H181
     obtain ⟨hr184, hc185, hC186⟩ := cut_hi (P := Try.prog) (d := (Kd.int .u8)) (t := 28) (e := 5) Try.underlying28 gwsiz5 A82 c83 ((files.getD i.toNat z93).f1) hl84 (((files.getD i.toNat z93).f2) + (mn (mx (keep.getD at_.toNat (0 : Int)) 0) ((((files.getD i.toNat z93).f1.length) : Int) - ((files.getD i.toNat z93).f2)))) (by omega) (by omega)
     refine V H183 (op_cut Try.underlying28 hr184 rfl (H183.ev rfl) rfl (some_ev (H183.ev rfl))) ?_
     intro _ H188; clear H183
     refine V H188 (op_field (gwfld93_1 _ _) rfl (H188.ev rfl)) ?_
     intro _ H190; clear H188
     refine gw_set 0 H190 O160 rfl (want_none rfl) rfl (op_store1 gwsiz28 rfl (H190.ev rfl) (H190.ev rfl) rfl (blk_at (O160.get 0 rfl) rfl) (blkf (O160.get 0 rfl))) ?_
     intro _ w193 H192 O194; clear H190 O160
     have O195 : Own w w193 [Bk g90 [.string ((files.getD i.toNat z93).f0), .slice A82 ((((files.getD i.toNat z93).f1).take (((files.getD i.toNat z93).f2) + (mn (mx (keep.getD at_.toNat (0 : Int)) 0) ((((files.getD i.toNat z93).f1.length) : Int) - ((files.getD i.toNat z93).f2)))).toNat).length) c83, J ((files.getD i.toNat z93).f2)] 93, Chunk.prow w P k93 93 w.heap.size So (.slice Ao out.length co) out, Bk g8 [.slice none 0 0, J 0, J 0, .bool false] 50, Bk g2 [.slice Af files.length cf, J most, J 0, .bool false] 50] := O194
     clear O194
     refine wpList_nil ?_
     refine gw_nx (hK171 _ _ ?_)
     refine wp_region_lit ?_
     refine V H192 (op_field (gwfld93_1 _ _) rfl (H192.ev rfl)) ?_
     intro _ H197; clear H192
     refine V H197 (op_load1 gwagg28 rfl (H197.ev rfl) (blk_at (O195.get 0 rfl) rfl)) ?_
     intro _ H199; clear H197
     refine V H199 (op_len Try.underlying28 rfl (H199.ev rfl)) ?_
     intro _ H201; clear H199
     have H202 := H201.conv (v' := J ((files.getD i.toNat z93).f2 + (mn (mx (keep.getD at_.toNat (0 : Int)) 0) (((files.getD i.toNat z93).f1.length : Int) - (files.getD i.toNat z93).f2)))) (congrArg (Value.int .i64) hl2)
     clear H201
     refine V H202 (op_field (gwfld93_2 _ _) rfl (H202.ev rfl)) ?_
     intro _ H204; clear H202
     refine gw_set 0 H204 O195 rfl (want_none rfl) rfl (op_store1 gwsiz3 rfl (H204.ev rfl) (H204.ev rfl) rfl (blk_at (O195.get 0 rfl) rfl) (blkf (O195.get 0 rfl))) ?_
     intro _ w207 H206 O208; clear H204 O195
     have O209 : Own w w207 [Bk g90 [.string ((files.getD i.toNat z93).f0), .slice A82 ((((files.getD i.toNat z93).f1).take (((files.getD i.toNat z93).f2) + (mn (mx (keep.getD at_.toNat (0 : Int)) 0) ((((files.getD i.toNat z93).f1.length) : Int) - ((files.getD i.toNat z93).f2)))).toNat).length) c83, J ((files.getD i.toNat z93).f2 + (mn (mx (keep.getD at_.toNat (0 : Int)) 0) (((files.getD i.toNat z93).f1.length : Int) - (files.getD i.toNat z93).f2)))] 93, Chunk.prow w P k93 93 w.heap.size So (.slice Ao out.length co) out, Bk g8 [.slice none 0 0, J 0, J 0, .bool false] 50, Bk g2 [.slice Af files.length cf, J most, J 0, .bool false] 50] := O208
     clear O208
     refine wpList_nil ?_
     refine gw_nx (hK116 _ _ ?_)
     refine wp_region_lit ?_
     refine V H206 (op_move rfl (H206.ev rfl)) ?_
     intro _ H211; clear H206
     refine V H211 (op_loadn gwagg93 gwsiz93 rfl (H211.ev rfl) (O209.get 0 rfl) rfl rfl) ?_
     intro _ H213; clear H211
     refine gw_news (O := .cells #[.string ((files.getD i.toNat z93).f0), .slice A82 ((((files.getD i.toNat z93).f1).take (((files.getD i.toNat z93).f2) + (mn (mx (keep.getD at_.toNat (0 : Int)) 0) ((((files.getD i.toNat z93).f1.length) : Int) - ((files.getD i.toNat z93).f2)))).toNat).length) c83, J ((files.getD i.toNat z93).f2 + (mn (mx (keep.getD at_.toNat (0 : Int)) 0) (((files.getD i.toNat z93).f1.length : Int) - (files.getD i.toNat z93).f2)))] 93 (0, 0)) (n := 1) H213 O209 (want_none rfl) rfl (by decide) (op_bslice (by kernel_rfl) rfl (pt_cons (H213.ev rfl) pt_nil)) ?_
     intro g214 _ w216 H217 O218; clear H213 O209
     have O219 : Own w w216 [Bk g214 [.string ((files.getD i.toNat z93).f0), .slice A82 ((((files.getD i.toNat z93).f1).take (((files.getD i.toNat z93).f2) + (mn (mx (keep.getD at_.toNat (0 : Int)) 0) ((((files.getD i.toNat z93).f1.length) : Int) - ((files.getD i.toNat z93).f2)))).toNat).length) c83, J ((files.getD i.toNat z93).f2 + (mn (mx (keep.getD at_.toNat (0 : Int)) 0) (((files.getD i.toNat z93).f1.length : Int) - (files.getD i.toNat z93).f2)))] 93, Bk g90 [.string ((files.getD i.toNat z93).f0), .slice A82 ((((files.getD i.toNat z93).f1).take (((files.getD i.toNat z93).f2) + (mn (mx (keep.getD at_.toNat (0 : Int)) 0) ((((files.getD i.toNat z93).f1.length) : Int) - ((files.getD i.toNat z93).f2)))).toNat).length) c83, J ((files.getD i.toNat z93).f2 + (mn (mx (keep.getD at_.toNat (0 : Int)) 0) (((files.getD i.toNat z93).f1.length : Int) - (files.getD i.toNat z93).f2)))] 93, Chunk.prow w P k93 93 w.heap.size So (.slice Ao out.length co) out, Bk g8 [.slice none 0 0, J 0, J 0, .bool false] 50, Bk g2 [.slice Af files.length cf, J most, J 0, .bool false] 50] := O218
     clear O218
     refine gw_pappend1 k93 (cs := [.string ((files.getD i.toNat z93).f0), .slice A82 ((((files.getD i.toNat z93).f1).take (((files.getD i.toNat z93).f2) + (mn (mx (keep.getD at_.toNat (0 : Int)) 0) ((((files.getD i.toNat z93).f1.length) : Int) - ((files.getD i.toNat z93).f2)))).toNat).length) c83, J ((files.getD i.toNat z93).f2 + (mn (mx (keep.getD at_.toNat (0 : Int)) 0) (((files.getD i.toNat z93).f1.length : Int) - (files.getD i.toNat z93).f2)))]) (p := (⟨(files.getD i.toNat z93).f0, (((files.getD i.toNat z93).f1).take (((files.getD i.toNat z93).f2) + (mn (mx (keep.getD at_.toNat (0 : Int)) 0) ((((files.getD i.toNat z93).f1.length) : Int) - ((files.getD i.toNat z93).f2)))).toNat), (files.getD i.toNat z93).f2 + (mn (mx (keep.getD at_.toNat (0 : Int)) 0) (((files.getD i.toNat z93).f1.length : Int) - (files.getD i.toNat z93).f2))⟩ : S93)) hP H217 (by exact O219.sel [2, 0, 1, 3, 4] (by decide)) (want_none rfl) rfl (by decide) rfl Try.underlying48 gwinfo93 rfl (by decide) (by decide) (H217.ev rfl) (H217.ev rfl) (k93_mkF _ _ (⟨(files.getD i.toNat z93).f0, (((files.getD i.toNat z93).f1).take (((files.getD i.toNat z93).f2) + (mn (mx (keep.getD at_.toNat (0 : Int)) 0) ((((files.getD i.toNat z93).f1.length) : Int) - ((files.getD i.toNat z93).f2)))).toNat), (files.getD i.toNat z93).f2 + (mn (mx (keep.getD at_.toNat (0 : Int)) 0) (((files.getD i.toNat z93).f1.length : Int) - (files.getD i.toNat z93).f2))⟩ : S93) hc185 (Kd.F_take (m := (((files.getD i.toNat z93).f2) + (mn (mx (keep.getD at_.toNat (0 : Int)) 0) ((((files.getD i.toNat z93).f1.length) : Int) - ((files.getD i.toNat z93).f2)))).toNat) hC85 (by omega))) O219.below.size (by first | omega | (simp; omega)) ?_
     intro A220 c221 S222 _ w224 H225 O226; clear H217 O219
     have O227 : Own w w224 [Chunk.prow w P k93 93 w.heap.size S222 (.slice A220 ((out ++ [(⟨(files.getD i.toNat z93).f0, (((files.getD i.toNat z93).f1).take (((files.getD i.toNat z93).f2) + (mn (mx (keep.getD at_.toNat (0 : Int)) 0) ((((files.getD i.toNat z93).f1.length) : Int) - ((files.getD i.toNat z93).f2)))).toNat), (files.getD i.toNat z93).f2 + (mn (mx (keep.getD at_.toNat (0 : Int)) 0) (((files.getD i.toNat z93).f1.length : Int) - (files.getD i.toNat z93).f2))⟩ : S93)]).length) c221) (out ++ [(⟨(files.getD i.toNat z93).f0, (((files.getD i.toNat z93).f1).take (((files.getD i.toNat z93).f2) + (mn (mx (keep.getD at_.toNat (0 : Int)) 0) ((((files.getD i.toNat z93).f1.length) : Int) - ((files.getD i.toNat z93).f2)))).toNat), (files.getD i.toNat z93).f2 + (mn (mx (keep.getD at_.toNat (0 : Int)) 0) (((files.getD i.toNat z93).f1.length : Int) - (files.getD i.toNat z93).f2))⟩ : S93)]), Bk g90 [.string ((files.getD i.toNat z93).f0), .slice A82 ((((files.getD i.toNat z93).f1).take (((files.getD i.toNat z93).f2) + (mn (mx (keep.getD at_.toNat (0 : Int)) 0) ((((files.getD i.toNat z93).f1.length) : Int) - ((files.getD i.toNat z93).f2)))).toNat).length) c83, J ((files.getD i.toNat z93).f2 + (mn (mx (keep.getD at_.toNat (0 : Int)) 0) (((files.getD i.toNat z93).f1.length : Int) - (files.getD i.toNat z93).f2)))] 93, Bk g8 [.slice none 0 0, J 0, J 0, .bool false] 50, Bk g2 [.slice Af files.length cf, J most, J 0, .bool false] 50] := O226
     clear O226
     refine V H225 (op_assign rfl (H225.ev rfl)) ?_
     intro _ H229; clear H225
     refine wpList_nil ?_
     refine gw_blk ?_
     refine gw_nx (hK68 _ _ ?_)
     refine wp_region_lit ?_
     refine V H229 (op_move rfl (H229.ev rfl)) ?_
     intro _ H231; clear H229
     refine V H231 (op_add rfl (H231.ev rfl) (ev_c _ _) (by omega)) ?_
     intro _ H233; clear H231
     refine V H233 (op_assign rfl (H233.ev rfl)) ?_
     intro _ H235; clear H233
     refine wpList_nil ?_
     refine gw_nx ⟨_, ?_, i + 1, (out ++ [(⟨(files.getD i.toNat z93).f0, (((files.getD i.toNat z93).f1).take (((files.getD i.toNat z93).f2) + (mn (mx (keep.getD at_.toNat (0 : Int)) 0) ((((files.getD i.toNat z93).f1.length) : Int) - ((files.getD i.toNat z93).f2)))).toNat), (files.getD i.toNat z93).f2 + (mn (mx (keep.getD at_.toNat (0 : Int)) 0) (((files.getD i.toNat z93).f1.length : Int) - (files.getD i.toNat z93).f2))⟩ : S93)]), A220, c221, _, (at_ + 1), (H235.pick (t := 7) rfl (H235.pick (t := 5) rfl (H235.pick (t := 6) rfl (H235.pick (t := 1) rfl (H235.pick (t := 2) rfl (H235.pick (t := 4) rfl H235.nil)))))), O227.sel [0, 2, 3] (by decide), ?_, ?_, ?_, ?_, rfl⟩
     ·
      rw [hm53]; omega
     ·
      omega
     ·
      omega
     ·
      rw [← hW, hdo, crash_go (x := ofS (files.getD i.toNat z93)) h1_ hkn1 hkd, show (i + 1).toNat = i.toNat + 1 by omega]; simp [ofS]
     ·
      rw [List.length_append, List.length_singleton]; omega
    ·
     have H236 := H136.subst_ (d := 37) (b := false) rfl hb137
     clear H136
     (try simp only [decide_eq_false_iff_not, Int.not_lt] at hb137)
     have h1_ : ¬ ((files.getD i.toNat z93).f1.length : Int) - (files.getD i.toNat z93).f2 = 0 := by omega
     have hkn1 : keepN (keep.drop at_.toNat) (((files.getD i.toNat z93).f1.length : Int) - (files.getD i.toNat z93).f2) = 0 := keepN_past (by omega)
     have hke : 0 ≤ keepN (keep.drop at_.toNat) (((files.getD i.toNat z93).f1.length : Int) - (files.getD i.toNat z93).f2) ∧ keepN (keep.drop at_.toNat) (((files.getD i.toNat z93).f1.length : Int) - (files.getD i.toNat z93).f2) ≤ (((files.getD i.toNat z93).f1.length : Int) - (files.getD i.toNat z93).f2) := keepN_in _ (by omega)
     rw [hkn1] at hke
     have hkd : (keep.drop at_.toNat).drop 1 = keep.drop (at_ + 1).toNat := by rw [List.drop_drop]; congr 1; omega
     have hl2 : (((files.getD i.toNat z93).f1.take ((files.getD i.toNat z93).f2 + 0).toNat).length : Int) = (files.getD i.toNat z93).f2 + 0 := by rw [List.length_take]; omega
     refine wp_skip ?_
     refine gw_nx (hK127 _ _ ?_)
     refine gw_seq fun K237 hK237 => ?_
     refine wp_region_lit ?_
     refine V H236 (op_move rfl (H236.ev rfl)) ?_
     intro _ H239; clear H236
     refine V H239 (op_add rfl (H239.ev rfl) (ev_c _ _) (by omega)) ?_
     intro _ H241; clear H239
     refine V H241 (op_assign rfl (H241.ev rfl)) ?_
     intro _ H243; clear H241
     refine wpList_nil ?_
     refine gw_nx (hK237 _ _ ?_)
     refine gw_seq fun K244 hK244 => ?_
     refine wp_region_lit ?_
     refine V H243 (op_field (gwfld93_1 _ _) rfl (H243.ev rfl)) ?_
     intro _ H246; clear H243
     refine V H246 (op_load1 gwagg28 rfl (H246.ev rfl) (blk_at (O100.get 0 rfl) rfl)) ?_
     intro _ H248; clear H246
     refine V H248 (op_field (gwfld93_2 _ _) rfl (H248.ev rfl)) ?_
     intro _ H250; clear H248
     refine V H250 (op_load1 gwagg3 rfl (H250.ev rfl) (blk_at (O100.get 0 rfl) rfl)) ?_
     intro _ H252; clear H250
     refine V H252 (op_move rfl (H252.ev rfl)) ?_
     intro _ H254; clear H252
     refine V H254 (op_add rfl (H254.ev rfl) (H254.ev rfl) (by omega)) ?_
     intro _ H256; clear H254
     obtain ⟨hr257, hc258, hC259⟩ := cut_hi (P := Try.prog) (d := (Kd.int .u8)) (t := 28) (e := 5) Try.underlying28 gwsiz5 A82 c83 ((files.getD i.toNat z93).f1) hl84 (((files.getD i.toNat z93).f2) + 0) (by omega) (by omega)
     refine V H256 (op_cut Try.underlying28 hr257 rfl (H256.ev rfl) rfl (some_ev (H256.ev rfl))) ?_
     intro _ H261; clear H256
     refine V H261 (op_field (gwfld93_1 _ _) rfl (H261.ev rfl)) ?_
     intro _ H263; clear H261
     refine gw_set 0 H263 O100 rfl (want_none rfl) rfl (op_store1 gwsiz28 rfl (H263.ev rfl) (H263.ev rfl) rfl (blk_at (O100.get 0 rfl) rfl) (blkf (O100.get 0 rfl))) ?_
     intro _ w266 H265 O267; clear H263 O100
     have O268 : Own w w266 [Bk g90 [.string ((files.getD i.toNat z93).f0), .slice A82 ((((files.getD i.toNat z93).f1).take (((files.getD i.toNat z93).f2) + 0).toNat).length) c83, J ((files.getD i.toNat z93).f2)] 93, Chunk.prow w P k93 93 w.heap.size So (.slice Ao out.length co) out, Bk g8 [.slice none 0 0, J 0, J 0, .bool false] 50, Bk g2 [.slice Af files.length cf, J most, J 0, .bool false] 50] := O267
     clear O267
     refine wpList_nil ?_
     refine gw_nx (hK244 _ _ ?_)
     refine wp_region_lit ?_
     refine V H265 (op_field (gwfld93_1 _ _) rfl (H265.ev rfl)) ?_
     intro _ H270; clear H265
     refine V H270 (op_load1 gwagg28 rfl (H270.ev rfl) (blk_at (O268.get 0 rfl) rfl)) ?_
     intro _ H272; clear H270
     refine V H272 (op_len Try.underlying28 rfl (H272.ev rfl)) ?_
     intro _ H274; clear H272
     have H275 := H274.conv (v' := J ((files.getD i.toNat z93).f2 + 0)) (congrArg (Value.int .i64) hl2)
     clear H274
     refine V H275 (op_field (gwfld93_2 _ _) rfl (H275.ev rfl)) ?_
     intro _ H277; clear H275
     refine gw_set 0 H277 O268 rfl (want_none rfl) rfl (op_store1 gwsiz3 rfl (H277.ev rfl) (H277.ev rfl) rfl (blk_at (O268.get 0 rfl) rfl) (blkf (O268.get 0 rfl))) ?_
     intro _ w280 H279 O281; clear H277 O268
     have O282 : Own w w280 [Bk g90 [.string ((files.getD i.toNat z93).f0), .slice A82 ((((files.getD i.toNat z93).f1).take (((files.getD i.toNat z93).f2) + 0).toNat).length) c83, J ((files.getD i.toNat z93).f2 + 0)] 93, Chunk.prow w P k93 93 w.heap.size So (.slice Ao out.length co) out, Bk g8 [.slice none 0 0, J 0, J 0, .bool false] 50, Bk g2 [.slice Af files.length cf, J most, J 0, .bool false] 50] := O281
     clear O281
     refine wpList_nil ?_
     refine gw_nx (hK116 _ _ ?_)
     refine wp_region_lit ?_
     refine V H279 (op_move rfl (H279.ev rfl)) ?_
     intro _ H284; clear H279
     refine V H284 (op_loadn gwagg93 gwsiz93 rfl (H284.ev rfl) (O282.get 0 rfl) rfl rfl) ?_
     intro _ H286; clear H284
     refine gw_news (O := .cells #[.string ((files.getD i.toNat z93).f0), .slice A82 ((((files.getD i.toNat z93).f1).take (((files.getD i.toNat z93).f2) + 0).toNat).length) c83, J ((files.getD i.toNat z93).f2 + 0)] 93 (0, 0)) (n := 1) H286 O282 (want_none rfl) rfl (by decide) (op_bslice (by kernel_rfl) rfl (pt_cons (H286.ev rfl) pt_nil)) ?_
     intro g287 _ w289 H290 O291; clear H286 O282
     have O292 : Own w w289 [Bk g287 [.string ((files.getD i.toNat z93).f0), .slice A82 ((((files.getD i.toNat z93).f1).take (((files.getD i.toNat z93).f2) + 0).toNat).length) c83, J ((files.getD i.toNat z93).f2 + 0)] 93, Bk g90 [.string ((files.getD i.toNat z93).f0), .slice A82 ((((files.getD i.toNat z93).f1).take (((files.getD i.toNat z93).f2) + 0).toNat).length) c83, J ((files.getD i.toNat z93).f2 + 0)] 93, Chunk.prow w P k93 93 w.heap.size So (.slice Ao out.length co) out, Bk g8 [.slice none 0 0, J 0, J 0, .bool false] 50, Bk g2 [.slice Af files.length cf, J most, J 0, .bool false] 50] := O291
     clear O291
     refine gw_pappend1 k93 (cs := [.string ((files.getD i.toNat z93).f0), .slice A82 ((((files.getD i.toNat z93).f1).take (((files.getD i.toNat z93).f2) + 0).toNat).length) c83, J ((files.getD i.toNat z93).f2 + 0)]) (p := (⟨(files.getD i.toNat z93).f0, (((files.getD i.toNat z93).f1).take (((files.getD i.toNat z93).f2) + 0).toNat), (files.getD i.toNat z93).f2 + 0⟩ : S93)) hP H290 (by exact O292.sel [2, 0, 1, 3, 4] (by decide)) (want_none rfl) rfl (by decide) rfl Try.underlying48 gwinfo93 rfl (by decide) (by decide) (H290.ev rfl) (H290.ev rfl) (k93_mkF _ _ (⟨(files.getD i.toNat z93).f0, (((files.getD i.toNat z93).f1).take (((files.getD i.toNat z93).f2) + 0).toNat), (files.getD i.toNat z93).f2 + 0⟩ : S93) hc258 (Kd.F_take (m := (((files.getD i.toNat z93).f2) + 0).toNat) hC85 (by omega))) O292.below.size (by first | omega | (simp; omega)) ?_
     intro A293 c294 S295 _ w297 H298 O299; clear H290 O292
     have O300 : Own w w297 [Chunk.prow w P k93 93 w.heap.size S295 (.slice A293 ((out ++ [(⟨(files.getD i.toNat z93).f0, (((files.getD i.toNat z93).f1).take (((files.getD i.toNat z93).f2) + 0).toNat), (files.getD i.toNat z93).f2 + 0⟩ : S93)]).length) c294) (out ++ [(⟨(files.getD i.toNat z93).f0, (((files.getD i.toNat z93).f1).take (((files.getD i.toNat z93).f2) + 0).toNat), (files.getD i.toNat z93).f2 + 0⟩ : S93)]), Bk g90 [.string ((files.getD i.toNat z93).f0), .slice A82 ((((files.getD i.toNat z93).f1).take (((files.getD i.toNat z93).f2) + 0).toNat).length) c83, J ((files.getD i.toNat z93).f2 + 0)] 93, Bk g8 [.slice none 0 0, J 0, J 0, .bool false] 50, Bk g2 [.slice Af files.length cf, J most, J 0, .bool false] 50] := O299
     clear O299
     refine V H298 (op_assign rfl (H298.ev rfl)) ?_
     intro _ H302; clear H298
     refine wpList_nil ?_
     refine gw_blk ?_
     refine gw_nx (hK68 _ _ ?_)
     refine wp_region_lit ?_
     refine V H302 (op_move rfl (H302.ev rfl)) ?_
     intro _ H304; clear H302
     refine V H304 (op_add rfl (H304.ev rfl) (ev_c _ _) (by omega)) ?_
     intro _ H306; clear H304
     refine V H306 (op_assign rfl (H306.ev rfl)) ?_
     intro _ H308; clear H306
     refine wpList_nil ?_
     refine gw_nx ⟨_, ?_, i + 1, (out ++ [(⟨(files.getD i.toNat z93).f0, (((files.getD i.toNat z93).f1).take (((files.getD i.toNat z93).f2) + 0).toNat), (files.getD i.toNat z93).f2 + 0⟩ : S93)]), A293, c294, _, (at_ + 1), (H308.pick (t := 7) rfl (H308.pick (t := 5) rfl (H308.pick (t := 6) rfl (H308.pick (t := 1) rfl (H308.pick (t := 2) rfl (H308.pick (t := 4) rfl H308.nil)))))), O300.sel [0, 2, 3] (by decide), ?_, ?_, ?_, ?_, rfl⟩
     ·
      rw [hm53]; omega
     ·
      omega
     ·
      omega
     ·
      rw [← hW, hdo, crash_go (x := ofS (files.getD i.toNat z93)) h1_ hkn1 hkd, show (i + 1).toNat = i.toNat + 1 by omega]; simp [ofS]
     ·
      rw [List.length_append, List.length_singleton]; omega
   ·
    have H309 := H121.subst_ (d := 33) (b := false) rfl hb122
    clear H121
    (try simp only [decide_eq_false_iff_not, Int.not_lt] at hb122)
    have h1_ : ((files.getD i.toNat z93).f1.length : Int) - (files.getD i.toNat z93).f2 = 0 := by omega
    refine wp_skip ?_
    refine gw_nx (hK116 _ _ ?_)
    refine wp_region_lit ?_
    refine V H309 (op_move rfl (H309.ev rfl)) ?_
    intro _ H311; clear H309
    refine V H311 (op_loadn gwagg93 gwsiz93 rfl (H311.ev rfl) (O100.get 0 rfl) rfl rfl) ?_
    intro _ H313; clear H311
    refine gw_news (O := .cells #[.string ((files.getD i.toNat z93).f0), .slice A82 ((files.getD i.toNat z93).f1.length) c83, J ((files.getD i.toNat z93).f2)] 93 (0, 0)) (n := 1) H313 O100 (want_none rfl) rfl (by decide) (op_bslice (by kernel_rfl) rfl (pt_cons (H313.ev rfl) pt_nil)) ?_
    intro g314 _ w316 H317 O318; clear H313 O100
    have O319 : Own w w316 [Bk g314 [.string ((files.getD i.toNat z93).f0), .slice A82 ((files.getD i.toNat z93).f1.length) c83, J ((files.getD i.toNat z93).f2)] 93, Bk g90 [.string ((files.getD i.toNat z93).f0), .slice A82 ((files.getD i.toNat z93).f1.length) c83, J ((files.getD i.toNat z93).f2)] 93, Chunk.prow w P k93 93 w.heap.size So (.slice Ao out.length co) out, Bk g8 [.slice none 0 0, J 0, J 0, .bool false] 50, Bk g2 [.slice Af files.length cf, J most, J 0, .bool false] 50] := O318
    clear O318
    refine gw_pappend1 k93 (cs := [.string ((files.getD i.toNat z93).f0), .slice A82 ((files.getD i.toNat z93).f1.length) c83, J ((files.getD i.toNat z93).f2)]) (p := (⟨(files.getD i.toNat z93).f0, (files.getD i.toNat z93).f1, (files.getD i.toNat z93).f2⟩ : S93)) hP H317 (by exact O319.sel [2, 0, 1, 3, 4] (by decide)) (want_none rfl) rfl (by decide) rfl Try.underlying48 gwinfo93 rfl (by decide) (by decide) (H317.ev rfl) (H317.ev rfl) (k93_mkF _ _ (⟨(files.getD i.toNat z93).f0, (files.getD i.toNat z93).f1, (files.getD i.toNat z93).f2⟩ : S93) hl84 hC85) O319.below.size (by first | omega | (simp; omega)) ?_
    intro A320 c321 S322 _ w324 H325 O326; clear H317 O319
    have O327 : Own w w324 [Chunk.prow w P k93 93 w.heap.size S322 (.slice A320 ((out ++ [(⟨(files.getD i.toNat z93).f0, (files.getD i.toNat z93).f1, (files.getD i.toNat z93).f2⟩ : S93)]).length) c321) (out ++ [(⟨(files.getD i.toNat z93).f0, (files.getD i.toNat z93).f1, (files.getD i.toNat z93).f2⟩ : S93)]), Bk g90 [.string ((files.getD i.toNat z93).f0), .slice A82 ((files.getD i.toNat z93).f1.length) c83, J ((files.getD i.toNat z93).f2)] 93, Bk g8 [.slice none 0 0, J 0, J 0, .bool false] 50, Bk g2 [.slice Af files.length cf, J most, J 0, .bool false] 50] := O326
    clear O326
    refine V H325 (op_assign rfl (H325.ev rfl)) ?_
    intro _ H329; clear H325
    refine wpList_nil ?_
    refine gw_blk ?_
    refine gw_nx (hK68 _ _ ?_)
    refine wp_region_lit ?_
    refine V H329 (op_move rfl (H329.ev rfl)) ?_
    intro _ H331; clear H329
    refine V H331 (op_add rfl (H331.ev rfl) (ev_c _ _) (by omega)) ?_
    intro _ H333; clear H331
    refine V H333 (op_assign rfl (H333.ev rfl)) ?_
    intro _ H335; clear H333
    refine wpList_nil ?_
    refine gw_nx ⟨_, ?_, i + 1, (out ++ [(⟨(files.getD i.toNat z93).f0, (files.getD i.toNat z93).f1, (files.getD i.toNat z93).f2⟩ : S93)]), A320, c321, _, at_, (H335.pick (t := 7) rfl (H335.pick (t := 5) rfl (H335.pick (t := 6) rfl (H335.pick (t := 1) rfl (H335.pick (t := 2) rfl (H335.pick (t := 4) rfl H335.nil)))))), O327.sel [0, 2, 3] (by decide), ?_, ?_, ?_, ?_, rfl⟩
    ·
     rw [hm53]; omega
    ·
     omega
    ·
     omega
    ·
     rw [← hW, hdo, crash_keep (f := ofS (files.getD i.toNat z93)) h1_, show (i + 1).toNat = i.toNat + 1 by omega]; simp [ofS]
    ·
     rw [List.length_append, List.length_singleton]; omega
  ·
   have H336 := H65.subst_ (d := 18) (b := false) rfl hb66
   clear H65
   (try simp only [decide_eq_false_iff_not, Int.not_lt] at hb66)
   refine wp_exit ?_
   refine gw_thx ?_
   refine gw_thx ?_
   refine gw_in ?_
   refine gw_nx (hK43 _ _ ?_)
   refine gw_seq fun K337 hK337 => ?_
   refine wp_region_lit ?_
   refine V H336 (op_move rfl (H336.ev rfl)) ?_
   intro _ H339; clear H336
   refine V H339 (op_field (gwfld50_0 _ _) rfl (H339.ev rfl)) ?_
   intro _ H341; clear H339
   refine gw_set 2 H341 O52 rfl (want_none rfl) rfl (op_store1 gwsiz48 rfl (H341.ev rfl) (H341.ev rfl) rfl (blk_at (O52.get 2 rfl) rfl) (blkf (O52.get 2 rfl))) ?_
   intro _ w344 H343 O345; clear H341 O52
   have O346 : Own w w344 [Chunk.prow w P k93 93 w.heap.size So (.slice Ao out.length co) out, Bk g8 [.slice none 0 0, J 0, J 0, .bool false] 50, Bk g2 [.slice Ao out.length co, J most, J 0, .bool false] 50] := O345
   clear O345
   refine wpList_nil ?_
   refine gw_nx (hK337 _ _ ?_)
   refine gw_seq fun K347 hK347 => ?_
   refine wp_region_lit ?_
   refine V H343 (op_loadn gwagg50 gwsiz50 rfl (H343.ev rfl) (O346.get 2 rfl) rfl rfl) ?_
   intro _ H349; clear H343
   refine gw_setn 1 H349 O346 rfl (want_none rfl) rfl (op_storen gwsiz50 rfl (H349.ev rfl) (H349.ev rfl) (O346.get 1 rfl) rfl (by simp) (by simp [Value.oneCell'])) ?_
   intro _ w352 H351 O353; clear H349 O346
   have O354 : Own w w352 [Chunk.prow w P k93 93 w.heap.size So (.slice Ao out.length co) out, Bk g8 [.slice Ao out.length co, J most, J 0, .bool false] 50, Bk g2 [.slice Ao out.length co, J most, J 0, .bool false] 50] := O353
   clear O353
   refine wpList_nil ?_
   refine gw_nx (hK347 _ _ ?_)
   refine wp_ret ?_
   refine gw_rets1 H351 rfl (rv_celln H351 rfl gwagg50 gwsiz50 (O354.get 1 rfl) rfl) ?_
   rw [List.drop_eq_nil_of_le (by omega), List.map_nil, crash_nil, List.append_nil] at hW
   have hN_ := prow_N O354 hP (O354.get 0 rfl)
   exact ⟨out, _, _, hW, rfl, Kd.V_mono (Kd.N_V hN_) (fun k hk => hk.elim .inl fun h => .inr (O354.lt 0 rfl h).1), O354.below, fun ad e => by have h1 := (O354.get 0 rfl).1 ad.block (by rw [e]; rfl); exact ⟨.inr (O354.lt 0 rfl h1).1, (O354.lt 0 rfl h1).2⟩⟩
set_option maxHeartbeats 4000000 in
set_option maxRecDepth 100000 in
theorem read_ref (Af : Option Addr) (cf : Nat) (files : List S93) (d : PD) (nm : ByteArray) (w : World) (hr : Kd.C k93 w Af files.length files) (hcf : files.length ≤ cf) (hlf : files.length ≤ 1000000) (hd : files.map ofS = d.fs) :
    Calls Try.prog 30 #[.agg #[.slice Af files.length cf, .int .i64 d.most, .int .i64 d.fuse, .bool d.down], .string nm] w fun e w' => ∃ A' c', e = .returned (.tuple #[.slice A' (readD nm d).1.length c', .int .i64 (readD nm d).2]) ∧ Kd.C (Kd.int .u8) w' A' (readD nm d).1.length (readD nm d).1 ∧ (readD nm d).1.length ≤ c' ∧ Below w.heap.size w w' := by
 refine gw_start (N := 20) (vs := [.agg #[.slice Af files.length cf, J d.most, J d.fuse, .bool d.down], .string nm]) Try.func30 rfl rfl (by simp) fun a HF HO => ?_
 replace HO : Own w w [] := HO
 rcases find3 nm z93 files with ⟨hfi, hgd⟩ | ⟨i0, hfi, hi0, hgd⟩
 ·
  rw [hd] at hgd
  refine gw_seq fun K1 hK1 => ?_
  refine wp_region_lit ?_
  refine gw_new HF HO (want_none rfl) rfl (by decide) (op_box rfl (HF.ev rfl)) ?_
  intro g2 _ w4 H5 O6; clear HF HO
  have O7 : Own w w4 [Bk g2 [.slice Af files.length cf, J d.most, J d.fuse, .bool d.down] 50] := O6
  clear O6
  refine V H5 (op_assign rfl (ev_c _ _)) ?_
  intro _ H9; clear H5
  refine V H9 (op_assign rfl (ev_c _ _)) ?_
  intro _ H11; clear H9
  refine wpList_nil ?_
  refine gw_nx (hK1 _ _ ?_)
  refine gw_seq fun K12 hK12 => ?_
  refine gw_seq fun K13 hK13 => ?_
  refine wp_region_lit ?_
  refine V H11 (op_field (gwfld50_3 _ _) rfl (H11.ev rfl)) ?_
  intro _ H15; clear H11
  refine V H15 (op_load1 gwagg4 rfl (H15.ev rfl) (blk_at (O7.get 0 rfl) rfl)) ?_
  intro _ H17; clear H15
  refine wpList_nil ?_
  refine gw_nx (hK13 _ _ ?_)
  refine gw_cond H17 rfl (fun hb18 => ?_) (fun hb18 => ?_)
  ·
   have H19 := H17.subst_ (d := 8) (b := true) rfl hb18
   clear H17
   (try simp only [Bool.and_eq_true, Bool.or_eq_true, Bool.and_eq_false_iff, Bool.or_eq_false_iff, Bool.not_and, Bool.not_or, Bool.not_not, decide_eq_true_eq, decide_eq_false_iff_not, Bool.not_eq_true', Bool.not_eq_false', Bool.not_eq_true, Bool.not_eq_false, ne_eq, Decidable.not_not, Int.not_lt, Int.not_le, not_true_eq_false, not_false_eq_true, bne_iff_ne, beq_iff_eq, bne_eq_false_iff_eq, beq_eq_false_iff_ne] at hb18)
   have hdn := hb18
   refine gw_seq fun K20 hK20 => ?_
   refine wp_region_lit ?_
   refine V H19 (op_assign rfl (ev_c _ _)) ?_
   intro _ H22; clear H19
   refine V H22 (op_assign rfl (ev_c _ _)) ?_
   intro _ H24; clear H22
   refine wpList_nil ?_
   refine gw_nx (hK20 _ _ ?_)
   refine wp_ret ?_
   refine gw_thr ?_
   refine gw_ret2 H24 rfl rfl rfl ?_
   rw [read_down hdn]
   exact ⟨none, 0, rfl, Kd.C_nil _ _, Nat.le_refl _, O7.below⟩
  ·
   have H25 := H17.subst_ (d := 8) (b := false) rfl hb18
   clear H17
   (try simp only [Bool.and_eq_true, Bool.or_eq_true, Bool.and_eq_false_iff, Bool.or_eq_false_iff, Bool.not_and, Bool.not_or, Bool.not_not, decide_eq_true_eq, decide_eq_false_iff_not, Bool.not_eq_true', Bool.not_eq_false', Bool.not_eq_true, Bool.not_eq_false, ne_eq, Decidable.not_not, Int.not_lt, Int.not_le, not_true_eq_false, not_false_eq_true, bne_iff_ne, beq_iff_eq, bne_eq_false_iff_eq, beq_eq_false_iff_ne] at hb18)
   have hdn : d.down = false := by simpa using hb18
   refine wp_skip ?_
   refine gw_nx (hK12 _ _ ?_)
   refine gw_seq fun K26 hK26 => ?_
   refine wp_region_lit ?_
   refine V H25 (op_loadn gwagg50 gwsiz50 rfl (H25.ev rfl) (O7.get 0 rfl) rfl rfl) ?_
   intro _ H28; clear H25
   refine V H28 (op_move rfl (H28.ev rfl)) ?_
   intro _ H30; clear H28
   refine gw_call H30 (want_none rfl) rfl (by decide) (op_callL Try.func52 (by kernel_rfl) rfl rfl (ar_cons (H30.ev rfl) (ar_cons (H30.ev rfl) ar_nil))) (find_ref Af cf files d.most d.fuse d.down nm _ (Kd.C_below hr O7.below) hcf hlf) ?_
   rintro e31 w32 ⟨rfl, hb33⟩
   refine ⟨_, rfl, fun _ H35 => ?_⟩
   have O36 := O7.after hb33
   clear H30 O7 hb33
   have H38 := H35.conv (v' := J (-1)) (congrArg (Value.int .i64) hfi)
   clear H35
   refine V H38 (op_assign rfl (H38.ev rfl)) ?_
   intro _ H40; clear H38
   refine wpList_nil ?_
   refine gw_nx (hK26 _ _ ?_)
   refine gw_seq fun K41 hK41 => ?_
   refine gw_seq fun K42 hK42 => ?_
   refine wp_region_lit ?_
   refine V H40 (op_move rfl (H40.ev rfl)) ?_
   intro _ H44; clear H40
   refine V H44 (op_lss rfl (H44.ev rfl) (ev_c _ _)) ?_
   intro _ H46; clear H44
   have H47 := H46.lit (b := true) (by decide)
   clear H46
   refine wpList_nil ?_
   refine gw_nx (hK42 _ _ ?_)
   refine gw_cond H47 rfl (fun hb48 => ?_) (fun hb48 => ?_)
   rotate_left
   ·
    cases hb48
   refine gw_seq fun K49 hK49 => ?_
   refine wp_region_lit ?_
   refine V H47 (op_assign rfl (ev_c _ _)) ?_
   intro _ H51; clear H47
   refine V H51 (op_assign rfl (ev_c _ _)) ?_
   intro _ H53; clear H51
   refine wpList_nil ?_
   refine gw_nx (hK49 _ _ ?_)
   refine wp_ret ?_
   refine gw_thr ?_
   refine gw_ret2 H53 rfl rfl rfl ?_
   rw [read_none hdn hgd]
   exact ⟨none, 0, rfl, Kd.C_nil _ _, Nat.le_refl _, O36.below⟩
 ·
  rw [hd] at hgd
  refine gw_seq fun K54 hK54 => ?_
  refine wp_region_lit ?_
  refine gw_new HF HO (want_none rfl) rfl (by decide) (op_box rfl (HF.ev rfl)) ?_
  intro g55 _ w57 H58 O59; clear HF HO
  have O60 : Own w w57 [Bk g55 [.slice Af files.length cf, J d.most, J d.fuse, .bool d.down] 50] := O59
  clear O59
  refine V H58 (op_assign rfl (ev_c _ _)) ?_
  intro _ H62; clear H58
  refine V H62 (op_assign rfl (ev_c _ _)) ?_
  intro _ H64; clear H62
  refine wpList_nil ?_
  refine gw_nx (hK54 _ _ ?_)
  refine gw_seq fun K65 hK65 => ?_
  refine gw_seq fun K66 hK66 => ?_
  refine wp_region_lit ?_
  refine V H64 (op_field (gwfld50_3 _ _) rfl (H64.ev rfl)) ?_
  intro _ H68; clear H64
  refine V H68 (op_load1 gwagg4 rfl (H68.ev rfl) (blk_at (O60.get 0 rfl) rfl)) ?_
  intro _ H70; clear H68
  refine wpList_nil ?_
  refine gw_nx (hK66 _ _ ?_)
  refine gw_cond H70 rfl (fun hb71 => ?_) (fun hb71 => ?_)
  ·
   have H72 := H70.subst_ (d := 8) (b := true) rfl hb71
   clear H70
   (try simp only [Bool.and_eq_true, Bool.or_eq_true, Bool.and_eq_false_iff, Bool.or_eq_false_iff, Bool.not_and, Bool.not_or, Bool.not_not, decide_eq_true_eq, decide_eq_false_iff_not, Bool.not_eq_true', Bool.not_eq_false', Bool.not_eq_true, Bool.not_eq_false, ne_eq, Decidable.not_not, Int.not_lt, Int.not_le, not_true_eq_false, not_false_eq_true, bne_iff_ne, beq_iff_eq, bne_eq_false_iff_eq, beq_eq_false_iff_ne] at hb71)
   have hdn := hb71
   refine gw_seq fun K73 hK73 => ?_
   refine wp_region_lit ?_
   refine V H72 (op_assign rfl (ev_c _ _)) ?_
   intro _ H75; clear H72
   refine V H75 (op_assign rfl (ev_c _ _)) ?_
   intro _ H77; clear H75
   refine wpList_nil ?_
   refine gw_nx (hK73 _ _ ?_)
   refine wp_ret ?_
   refine gw_thr ?_
   refine gw_ret2 H77 rfl rfl rfl ?_
   rw [read_down hdn]
   exact ⟨none, 0, rfl, Kd.C_nil _ _, Nat.le_refl _, O60.below⟩
  ·
   have H78 := H70.subst_ (d := 8) (b := false) rfl hb71
   clear H70
   (try simp only [Bool.and_eq_true, Bool.or_eq_true, Bool.and_eq_false_iff, Bool.or_eq_false_iff, Bool.not_and, Bool.not_or, Bool.not_not, decide_eq_true_eq, decide_eq_false_iff_not, Bool.not_eq_true', Bool.not_eq_false', Bool.not_eq_true, Bool.not_eq_false, ne_eq, Decidable.not_not, Int.not_lt, Int.not_le, not_true_eq_false, not_false_eq_true, bne_iff_ne, beq_iff_eq, bne_eq_false_iff_eq, beq_eq_false_iff_ne] at hb71)
   have hdn : d.down = false := by simpa using hb71
   refine wp_skip ?_
   refine gw_nx (hK65 _ _ ?_)
   refine gw_seq fun K79 hK79 => ?_
   refine wp_region_lit ?_
   refine V H78 (op_loadn gwagg50 gwsiz50 rfl (H78.ev rfl) (O60.get 0 rfl) rfl rfl) ?_
   intro _ H81; clear H78
   refine V H81 (op_move rfl (H81.ev rfl)) ?_
   intro _ H83; clear H81
   refine gw_call H83 (want_none rfl) rfl (by decide) (op_callL Try.func52 (by kernel_rfl) rfl rfl (ar_cons (H83.ev rfl) (ar_cons (H83.ev rfl) ar_nil))) (find_ref Af cf files d.most d.fuse d.down nm _ (Kd.C_below hr O60.below) hcf hlf) ?_
   rintro e84 w85 ⟨rfl, hb86⟩
   refine ⟨_, rfl, fun _ H88 => ?_⟩
   have O89 := O60.after hb86
   clear H83 O60 hb86
   have H91 := H88.conv (v' := J i0) (congrArg (Value.int .i64) hfi)
   clear H88
   refine V H91 (op_assign rfl (H91.ev rfl)) ?_
   intro _ H93; clear H91
   refine wpList_nil ?_
   refine gw_nx (hK79 _ _ ?_)
   refine gw_seq fun K94 hK94 => ?_
   refine gw_seq fun K95 hK95 => ?_
   refine wp_region_lit ?_
   refine V H93 (op_move rfl (H93.ev rfl)) ?_
   intro _ H97; clear H93
   refine V H97 (op_lss rfl (H97.ev rfl) (ev_c _ _)) ?_
   intro _ H99; clear H97
   have H100 := H99.lit (b := false) (by rw [decide_eq_false_iff_not]; omega)
   clear H99
   refine wpList_nil ?_
   refine gw_nx (hK95 _ _ ?_)
   refine gw_cond H100 rfl (fun hb101 => ?_) (fun hb101 => ?_)
   skip
   ·
    cases hb101
   refine wp_skip ?_
   refine gw_nx (hK94 _ _ ?_)
   refine gw_seq fun K102 hK102 => ?_
   refine wp_region_lit ?_
   refine V H100 (op_field (gwfld50_0 _ _) rfl (H100.ev rfl)) ?_
   intro _ H104; clear H100
   refine V H104 (op_load1 gwagg48 rfl (H104.ev rfl) (blk_at (O89.get 0 rfl) rfl)) ?_
   intro _ H106; clear H104
   refine V H106 (op_move rfl (H106.ev rfl)) ?_
   intro _ H108; clear H106
   obtain ⟨ad109, cs112, hA110, hl113, hK114, hc111⟩ := Kd.C_get hr z93 i0 (by omega) (by omega)
   obtain ⟨A115, c116, rfl, hl117, hC118⟩ := k93_open hK114
   clear hl113
   refine V H108 (op_index Try.underlying48 gwsiz93 rfl (H108.ev rfl) (H108.ev rfl) hA110 (⟨by omega, by omega⟩)) ?_
   intro _ H120; clear H108
   refine V H120 (op_field (gwflda93_1 _) rfl (H120.ev rfl)) ?_
   intro _ H122; clear H120
   refine V H122 (op_load1 gwagg28 rfl (H122.ev rfl) ((cells0 O89 hc111 1 _ rfl))) ?_
   intro _ H124; clear H122
   refine V H124 (op_assign rfl (H124.ev rfl)) ?_
   intro _ H126; clear H124
   refine V H126 (op_assign rfl (ev_c _ _)) ?_
   intro _ H128; clear H126
   refine wpList_nil ?_
   refine gw_nx (hK102 _ _ ?_)
   refine wp_ret ?_
   refine gw_ret2 H128 rfl rfl rfl ?_
   rw [read_some hdn hgd]
   exact ⟨_, _, rfl, (Kd.C_below hC118 O89.below), hl117, O89.below⟩
end GRef3_
export GRef3_ (between_calls crash_ref read_ref)
end Go.Proofs.Ytkdahjnmldeklaa.PA
end
section
namespace Go.Proofs.Ytkdahjnmldeklaa.PA
open Go.RowKit Go.Maps Go.Proofs.YtkdahjnmldeklaaW.PrintWords Go.Proofs.YtkdahjnmldeklaaW.PrintLast Go.Proofs.YtkdahjnmldeklaaW.PrintMore
set_option linter.unusedVariables false
set_option linter.unusedSimpArgs false
abbrev SFile := S93
abbrev kFile := k93
section
variable {w0 w : World} {Sm : Nat → Prop} {L : List Chunk}
theorem view_new {Am A' : Option Addr} {cm c' : Nat} {files files' : List SFile} {w' : World} (i : Nat) (HO : Own w0 w L) (hi : L[i]? = some (Chunk.view kFile Sm Am files.length cm files))
    (hV : Kd.V kFile 93 w' w.heap.size (fun k => Sm k ∨ w.heap.size ≤ k) (.slice A' files'.length c') files') (hb : Below w.heap.size w w') (hA : ∀ ad, A' = some ad → (Sm ad.block ∨ w.heap.size ≤ ad.block) ∧ ad.block < w'.heap.size) :
    Out w w' Sm [Chunk.view kFile (fun k => (Sm k ∨ w.heap.size ≤ k) ∧ k < w'.heap.size) A' files'.length c' files'] := by
  obtain ⟨_, hle, hF⟩ := Kd.V_at (Kd.V_bound hV)
  exact Out.one (Out.of_below hb _) (c := Chunk.view kFile (fun k => (Sm k ∨ w.heap.size ≤ k) ∧ k < w'.heap.size) A' files'.length c' files') ⟨hF, hle, hA⟩ fun k hk => hk
theorem do_own (Am : Option Addr) (cm : Nat) (files : List SFile) (d : PD) (kd : Int) (nm dest : ByteArray) (n : Int) (Ay : Option Addr) (cy : Nat) (y : List Int) (i : Nat) (HO : Own w0 w L) (hi : L[i]? = some (Chunk.view kFile Sm Am files.length cm files)) (hkd : 1 ≤ kd ∧ kd ≤ 6) (hlf : files.length ≤ 1000000) (hd : files.map ofS = d.fs) (hw : wfD d)
    (hy : Kd.C (Kd.int .u8) w Ay y.length y) (hcy : y.length ≤ cy) (hroom : d.used + y.length ≤ 140737488355327) :
    Calls Try.prog 27 #[.agg #[.slice Am files.length cm, .int .i64 d.most, .int .i64 d.fuse, .bool d.down], .agg #[.int .i64 kd, .string nm, .string dest, .int .i64 n, .slice Ay y.length cy]] w fun e w' => ∃ files' A' c' S', files'.map ofS = (doesD kd nm dest n y d).1.fs ∧
      e = .returned (.tuple #[.agg #[.slice A' files'.length c', .int .i64 (doesD kd nm dest n y d).1.most, .int .i64 (doesD kd nm dest n y d).1.fuse, .bool (doesD kd nm dest n y d).1.down], .int .i64 (doesD kd nm dest n y d).2]) ∧ Out w w' Sm [Chunk.view kFile S' A' files'.length c' files'] := by
  have hv := HO.get i hi
  have hP : ∀ k, Sm k → k < w.heap.size := fun k hk => (HO.lt i hi hk).2
  have fin : ∀ e w', DoPost Sm w w' e (doesD kd nm dest n y d) → ∃ files' A' c' S', files'.map ofS = (doesD kd nm dest n y d).1.fs ∧
      e = .returned (.tuple #[.agg #[.slice A' files'.length c', .int .i64 (doesD kd nm dest n y d).1.most, .int .i64 (doesD kd nm dest n y d).1.fuse, .bool (doesD kd nm dest n y d).1.down], .int .i64 (doesD kd nm dest n y d).2]) ∧ Out w w' Sm [Chunk.view kFile S' A' files'.length c' files'] := by
    rintro e w' ⟨files', A', c', h1, h2, h3, h4, h5⟩
    exact ⟨files', A', c', _, h1, h2, view_new i HO hi h3 h4 h5⟩
  exact (do_calls Sm Am cm files d kd hkd nm dest n Ay cy y w hP hv.1 hv.2.1 hv.2.2 hlf hd hw hy hcy hroom).mono fin
theorem crash_own (Am : Option Addr) (cm : Nat) (files : List SFile) (d : PD) (Ak : Option Addr) (ck : Nat) (keep : List Int) (i : Nat) (HO : Own w0 w L) (hi : L[i]? = some (Chunk.view kFile Sm Am files.length cm files)) (hlf : files.length ≤ 1000000) (hd : files.map ofS = d.fs) (hw : wfD d) (hus : d.used ≤ 140737488355327)
    (hk : Kd.C (Kd.int .i64) w Ak keep.length keep) (hck : keep.length ≤ ck) :
    Calls Try.prog 28 #[.agg #[.slice Am files.length cm, .int .i64 d.most, .int .i64 d.fuse, .bool d.down], .slice Ak keep.length ck] w fun e w' => ∃ files' A' c' S', files'.map ofS = (crashD keep d).fs ∧
      e = .returned (.agg #[.slice A' files'.length c', .int .i64 (crashD keep d).most, .int .i64 (crashD keep d).fuse, .bool (crashD keep d).down]) ∧ Out w w' Sm [Chunk.view kFile S' A' files'.length c' files'] := by
  have hv := HO.get i hi
  have hP : ∀ k, Sm k → k < w.heap.size := fun k hk => (HO.lt i hi hk).2
  refine (crash_ref Sm Am cm files d.most d.fuse d.down Ak ck keep w hP hv.1 hv.2.1 hlf hk hck fun x hx => ?_).mono ?_
  · have hm : ofS x ∈ d.fs := by rw [← hd]; exact List.mem_map_of_mem hx
    have h1 : 0 ≤ x.f2 ∧ x.f2 ≤ x.f1.length := hw.sf _ hm
    have h2 : (x.f1.length : Int) ≤ d.used := wf_len hw hm
    exact ⟨h1.1, h1.2, by omega⟩
  · rintro e w' ⟨files', A', c', h1, h2, h3, h4, h5⟩
    rw [hd] at h1
    exact ⟨files', A', c', _, h1, h2, view_new i HO hi h3 h4 h5⟩
end
structure JP (d : PD) (used : Int) : Prop where
  wf : wfD d
  len : (d.fs.length : Int) * 8 ≤ used
  by_ : d.used ≤ used
theorem stepD_used {d : PD} {k : PD → PD} {m : Int} (h0 : 0 ≤ d.fuse) (h1 : d.used ≤ m) (hk : ∀ d1 : PD, d1.fs = d.fs → d1.used = d.used → (k d1).used ≤ m) : (stepD d k).1.used ≤ m := by
  by_cases hf : d.fuse = 1
  · rw [step_off hf]; exact h1
  · rw [step_on hf h0]; exact hk _ rfl rfl
theorem with_used {d : PD} {nm : ByteArray} {q : PF → PD × Int} {m : Int} (h1 : d.used ≤ m) (h : ∀ f, d.down = false → getF nm d.fs = some f → (q f).1.used ≤ m) : (withF nm d q).1.used ≤ m := by
  cases hd : d.down
  · cases hg : getF nm d.fs with
    | none => rw [with_none hd hg]; exact h1
    | some f => rw [with_some hd hg]; exact h f hd hg
  · rw [with_down hd]; exact h1
theorem drop_used (nm : ByteArray) (d : PD) : (dropD nm d).used ≤ d.used := by
  cases hg : getF nm d.fs with
  | none => rw [drop_none hg]; exact Int.le_refl _
  | some f => rw [drop_some hg]; show d.used - (f.b.length : Int) ≤ d.used; omega
theorem does_used {d : PD} {kd n : Int} {A Z : ByteArray} {y : List Int} (hw : wfD d) : (doesD kd A Z n y d).1.used ≤ d.used + y.length := by
  have h0 := hw.fuse.1
  have hl : d.used ≤ d.used + y.length := by omega
  unfold doesD
  repeat' split
  · unfold createD
    repeat' split
    · exact hl
    · exact hl
    · exact hl
    · exact stepD_used h0 hl fun d1 _ h2 => by show d1.used ≤ _; omega
  · refine with_used hl fun f hd hg => ?_
    split
    · exact hl
    · exact stepD_used h0 hl fun d1 _ h2 => by show d1.used + (y.length : Int) ≤ _; omega
  · exact with_used hl fun f hd hg => stepD_used h0 hl fun d1 _ h2 => by show d1.used ≤ _; omega
  · cases hd : d.down
    · cases hb : namedB Z
      · rw [rename_bad hd hb]; exact hl
      · cases hg : getF A d.fs with
        | none => rw [rename_none hd hb hg]; exact hl
        | some f =>
          rw [rename_go hd hb hg]
          refine stepD_used h0 hl fun d1 _ h2 => ?_
          unfold renK
          split
          · omega
          · have := drop_used Z d1
            show (dropD Z d1).used ≤ _
            omega
    · rw [rename_down hd]; exact hl
  · refine with_used hl fun f hd hg => ?_
    split
    · exact hl
    · exact stepD_used h0 hl fun d1 _ h2 => by show d1.used - ((f.b.length : Int) - n) ≤ _; omega
  · exact with_used hl fun f hd hg => stepD_used h0 hl fun d1 _ h2 => by have := drop_used A d1; omega
theorem JP.does {d : PD} {used kd n : Int} {A Z : ByteArray} {y : List Int} (h : JP d used) : JP (doesD kd A Z n y d).1 (used + (y.length + 8)) := by
  refine ⟨wf_does h.wf, ?_, ?_⟩
  · have h1 := (kept_does (kd := kd) (A := A) (Z := Z) (n := n) (y := y) h.wf.fuse.1).len
    have h2 := h.len
    omega
  · have h1 := does_used (kd := kd) (A := A) (Z := Z) (n := n) (y := y) h.wf
    have h2 := h.by_
    omega
theorem JP.crash {d : PD} {used : Int} {keep : List Int} (h : JP d used) : JP (crashD keep d) used := by
  refine ⟨wf_crash h.wf, ?_, ?_⟩
  · have e := congrArg List.length (crash_names d.fs keep)
    rw [List.length_map, List.length_map] at e
    show ((crashF d.fs keep).1.length : Int) * 8 ≤ _
    have := h.len
    omega
  · have := crash_used d.fs keep h.wf.sf
    have := h.by_
    show d.used - _ ≤ _
    omega
theorem JP.fail {d : PD} {used n : Int} (h : JP d used) (hn : n ≤ 9223372036854775807) : JP { d with fuse := mx n 0 } used := ⟨wf_fuse h.wf (by unfold mx; split <;> omega), h.len, h.by_⟩
theorem JP.more {d : PD} {used m : Int} (h : JP d used) (hm : used ≤ m) : JP d m := ⟨h.wf, by have := h.len; omega, by have := h.by_; omega⟩
theorem names_of {files : List SFile} {d : PD} (hd : files.map ofS = d.fs) : namesD d = files.map fun x => x.f0 := by
  unfold namesD
  rw [← hd, List.map_map]
  rfl
theorem names_at {files : List SFile} {d : PD} (hd : files.map ofS = d.fs) (i : Nat) (z : SFile) (hi : i < files.length) : (namesD d).getD i (⟨#[]⟩ : ByteArray) = (files.getD i z).f0 := by
  rw [names_of hd]
  simp [List.getD_eq_getElem?_getD, List.getElem?_eq_getElem hi]
theorem readR {files : List SFile} {d : PD} (hd : files.map ofS = d.fs) (hw : wfD d) (hup : d.down = false) (i : Nat) (z : SFile) (hi : i < files.length) : readD (files.getD i z).f0 d = ((files.getD i z).f1, 0) := by
  have e : files.getD i z = files[i] := by simp [List.getD_eq_getElem?_getD, List.getElem?_eq_getElem hi]
  rw [e]
  have h1 : d.fs = (files.take i).map ofS ++ ofS files[i] :: (files.drop (i + 1)).map ofS := by rw [← hd, ← List.map_cons, ← List.map_append, List.getElem_cons_drop, List.take_append_drop]
  exact read_mid (f := ofS files[i]) hw hup h1
theorem readlen {d : PD} (hw : wfD d) (nm : ByteArray) : ((readD nm d).1.length : Int) ≤ d.used := by
  have h0 := hw.used
  cases hd : d.down
  · cases hg : getF nm d.fs with
    | none => rw [read_none hd hg]; show (0 : Int) ≤ _; omega
    | some f => rw [read_some hd hg]; exact wf_len hw (getF_mem hg).1
  · rw [read_down hd]; show (0 : Int) ≤ _; omega
end Go.Proofs.Ytkdahjnmldeklaa.PA
end
section
namespace Go.Proofs.Ytkdahjnmldeklaa.PA
open Go.RowKit Go.Proofs.YtkdahjnmldeklaaW.PrintWords Go.Proofs.YtkdahjnmldeklaaW.PrintLast Go.Proofs.YtkdahjnmldeklaaW.PrintMore
set_option linter.unusedVariables false
set_option linter.unusedSimpArgs false
namespace GVfsP0_
theorem gwagg28 : ∀ w, (isAgg 28).run Try.prog w = .ok false w := fun _ => by kernel_rfl
theorem gwagg3 : ∀ w, (isAgg 3).run Try.prog w = .ok false w := fun _ => by kernel_rfl
theorem gwagg4 : ∀ w, (isAgg 4).run Try.prog w = .ok false w := fun _ => by kernel_rfl
theorem gwagg48 : ∀ w, (isAgg 48).run Try.prog w = .ok false w := fun _ => by kernel_rfl
theorem gwagg50 : ∀ w, (isAgg 50).run Try.prog w = .ok true w := fun _ => by kernel_rfl
theorem gwagg9 : ∀ w, (isAgg 9).run Try.prog w = .ok false w := fun _ => by kernel_rfl
theorem gwagg93 : ∀ w, (isAgg 93).run Try.prog w = .ok true w := fun _ => by kernel_rfl
theorem gwfld50_0 (g off : Nat) : ∀ w, (Instr.fieldAt 50 (.pointer (some ⟨g, off, none⟩)) 0).run Try.prog w = .ok (.pointer (some ⟨g, off + 0, none⟩)) w := fun _ => by kernel_rfl
theorem gwfld50_1 (g off : Nat) : ∀ w, (Instr.fieldAt 50 (.pointer (some ⟨g, off, none⟩)) 1).run Try.prog w = .ok (.pointer (some ⟨g, off + 1, none⟩)) w := fun _ => by kernel_rfl
theorem gwfld50_3 (g off : Nat) : ∀ w, (Instr.fieldAt 50 (.pointer (some ⟨g, off, none⟩)) 3).run Try.prog w = .ok (.pointer (some ⟨g, off + 3, none⟩)) w := fun _ => by kernel_rfl
theorem gwfld93_0 (g off : Nat) : ∀ w, (Instr.fieldAt 93 (.pointer (some ⟨g, off, none⟩)) 0).run Try.prog w = .ok (.pointer (some ⟨g, off + 0, none⟩)) w := fun _ => by kernel_rfl
theorem gwfld93_1 (g off : Nat) : ∀ w, (Instr.fieldAt 93 (.pointer (some ⟨g, off, none⟩)) 1).run Try.prog w = .ok (.pointer (some ⟨g, off + 1, none⟩)) w := fun _ => by kernel_rfl
theorem gwsiz5 : ∀ w, (sizeOf 5).run Try.prog w = .ok 1 w := fun _ => by kernel_rfl
theorem gwsiz50 : ∀ w, (sizeOf 50).run Try.prog w = .ok 4 w := fun _ => by kernel_rfl
theorem gwsiz9 : ∀ w, (sizeOf 9).run Try.prog w = .ok 1 w := fun _ => by kernel_rfl
theorem gwsiz93 : ∀ w, (sizeOf 93).run Try.prog w = .ok 3 w := fun _ => by kernel_rfl
theorem gwzer93 : ∀ w, (zeroValue 93).run Try.prog w = .ok (.agg #[.string (⟨#[]⟩ : ByteArray), .slice none 0 0, .int .i64 0]) w := fun _ => by kernel_rfl
set_option maxHeartbeats 4000000 in
set_option maxRecDepth 100000 in
theorem same_down (w0 w : World) (R : Chunk) (gd : Nat) (S : Nat → Prop) (d : PD) (Sm : Nat → Prop) (Am : Option Addr) (cm : Nat) (files : List S93) (hd : files.map ofS = d.fs) (hw : wfD d) (hlen : d.fs.length ≤ 1000000) (hus : d.used ≤ 140737488355327) (hup : d.down = true) (HO : Own w0 w [R, Chunk.disk w0.heap.size gd S d, Chunk.view k93 Sm Am files.length cm files]) :
    Calls Try.prog 29 #[.pointer (some ⟨gd, 0, none⟩), .agg #[.slice Am files.length cm, .int .i64 d.most, .int .i64 d.fuse, .bool d.down]] w fun e w' => e = .returned (.bool true) ∧ Own w0 w' [R, Chunk.disk w0.heap.size gd S d, Chunk.view k93 Sm Am files.length cm files] := by
 have hlf : files.length ≤ 1000000 := by rw [← hd, List.length_map] at hlen; exact hlen
 have hfl : files.length = d.fs.length := by rw [← hd, List.length_map]
 have husd : (((files.map fun x => x.f1.length).sum : Nat) : Int) = d.used := by rw [← used_of, hd, hw.used]; rfl
 have hmo := hw.most
 have huo := hw.used
 have hnn := names_len d
 have hlx0 : ∀ i : Nat, i < files.length → (files.getD i z93).f0.size ≤ 40 ∧ ((files.getD i z93).f1.length : Int) ≤ d.used := fun i hi => by have hm : ofS (files.getD i z93) ∈ d.fs := (by rw [← hd]; exact List.mem_map_of_mem (getD_mem files i hi)); exact ⟨hw.nm _ hm, wf_len hw hm⟩
 refine gw_startO (N := 81) (vs := [.pointer (some ⟨gd, 0, none⟩), .agg #[.slice Am files.length cm, J d.most, J d.fuse, .bool d.down]]) Try.func29 rfl rfl (by simp) fun a HF => ?_
 refine gw_seq fun K1 hK1 => ?_
 refine wp_region_lit ?_
 refine gw_new HF HO (want_none rfl) rfl (by decide) (op_box rfl (HF.ev rfl)) ?_
 intro g2 _ w4 H5 O6; clear HF HO
 have O7 : Own w0 w4 [Bk g2 [.slice Am files.length cm, J d.most, J d.fuse, .bool d.down] 50, R, Chunk.disk w0.heap.size gd S d, Chunk.view k93 Sm Am files.length cm files] := O6
 clear O6
 refine V H5 (op_assign rfl (ev_c _ _)) ?_
 intro _ H9; clear H5
 refine wpList_nil ?_
 refine gw_nx (hK1 _ _ ?_)
 refine gw_seq fun K10 hK10 => ?_
 refine wp_region_lit ?_
 refine V H9 (op_move rfl (H9.ev rfl)) ?_
 intro _ H12; clear H9
 refine gw_call H12 (want_none rfl) rfl (by decide) (op_callL Try.func22 (by kernel_rfl) rfl rfl (ar_cons (H12.ev rfl) ar_nil)) (names_calls w0.heap.size gd S d _ (by exact O7.get 2 rfl) hlen) ?_
 rintro e16 w17 ⟨A13, c14, S15, rfl, hb18⟩
 refine ⟨_, rfl, fun _ H20 => ?_⟩
 have O21 := O7.fresh hb18
 have hbel22 := O7.below
 clear H12 O7 hb18
 have O23 := O21.lowrow 0 rfl (base' := w0.heap.size) (Below.size hbel22)
 have O24 : Own w0 w17 [Chunk.row Kd.string 9 w0.heap.size S15 (.slice A13 ((namesD d).length) c14) (namesD d), Bk g2 [.slice Am files.length cm, J d.most, J d.fuse, .bool d.down] 50, R, Chunk.disk w0.heap.size gd S d, Chunk.view k93 Sm Am files.length cm files] := O23
 clear O23
 have O25 := O24.row_view 0 rfl
 clear O24
 have O26 : Own w0 w17 [Chunk.view Kd.string S15 A13 ((namesD d).length) c14 (namesD d), Bk g2 [.slice Am files.length cm, J d.most, J d.fuse, .bool d.down] 50, R, Chunk.disk w0.heap.size gd S d, Chunk.view k93 Sm Am files.length cm files] := O25
 clear O25
 refine V H20 (op_assign rfl (H20.ev rfl)) ?_
 intro _ H28; clear H20
 refine wpList_nil ?_
 refine gw_nx (hK10 _ _ ?_)
 refine gw_seq fun K29 hK29 => ?_
 refine gw_seq fun K30 hK30 => ?_
 refine gw_drawB O26 (by kernel_rfl) (by kernel_rfl) fun w31 O32 => ?_
 clear O26
 refine gq_ev H28 (want_none rfl) rfl (by decide) (fun wq hq => have HO := O32.after hq; (op_move rfl (H28.ev rfl))) ?_
 intro _ H34; clear H28
 refine gq_call H34 (want_none rfl) rfl (by decide) (fun wq hq => have HO := O32.after hq; (op_callL Try.func21 (by kernel_rfl) rfl rfl (ar_cons (H34.ev rfl) ar_nil))) (fun wq hq => have HO := O32.after hq; (down_calls w0.heap.size gd S d _ (HO.get 3 rfl)).mono fun e w' h => ⟨h.1, below_then hq h.2⟩) ?_
 intro _ H36; clear H34
 refine gq_ev H36 (want_none rfl) rfl (by decide) (fun wq hq => have HO := O32.after hq; (op_field (gwfld50_3 _ _) rfl (H36.ev rfl))) ?_
 intro _ H38; clear H36
 refine gq_ev H38 (want_none rfl) rfl (by decide) (fun wq hq => have HO := O32.after hq; (op_load1 gwagg4 rfl (H38.ev rfl) (blk_at (HO.get 1 rfl) rfl))) ?_
 intro _ H40; clear H38
 refine gq_ev H40 (want_none rfl) rfl (by decide) (fun wq hq => have HO := O32.after hq; (op_neb Try.underlying4 rfl (H40.ev rfl) (H40.ev rfl))) ?_
 intro _ H42; clear H40
 have H43 := H42.lit (b := false) (by simp)
 clear H42
 refine gq_ev H43 (want_none rfl) rfl (by decide) (fun wq hq => have HO := O32.after hq; (op_move rfl (H43.ev rfl))) ?_
 intro _ H45; clear H43
 refine gq_ev H45 (want_yes H45 rfl rfl rfl rfl) rfl (by decide) (fun wq hq => have HO := O32.after hq; (op_move rfl (H45.ev rfl))) ?_
 intro _ H47; clear H45
 refine gq_call H47 (want_yes H47 rfl rfl rfl rfl) rfl (by decide) (fun wq hq => have HO := O32.after hq; (op_callL Try.func24 (by kernel_rfl) rfl rfl (ar_cons (H47.ev rfl) ar_nil))) (fun wq hq => have HO := O32.after hq; (room_calls w0.heap.size gd S d _ (HO.get 3 rfl) hw).mono fun e w' h => ⟨h.1, below_then hq h.2⟩) ?_
 intro _ H49; clear H47
 refine gq_ev H49 (want_yes H49 rfl rfl rfl rfl) rfl (by decide) (fun wq hq => have HO := O32.after hq; (op_field (gwfld50_1 _ _) rfl (H49.ev rfl))) ?_
 intro _ H51; clear H49
 refine gq_ev H51 (want_yes H51 rfl rfl rfl rfl) rfl (by decide) (fun wq hq => have HO := O32.after hq; (op_load1 gwagg3 rfl (H51.ev rfl) (blk_at (HO.get 1 rfl) rfl))) ?_
 intro _ H53; clear H51
 refine gq_ev H53 (want_yes H53 rfl rfl rfl rfl) rfl (by decide) (fun wq hq => have HO := O32.after hq; (op_loadn gwagg50 gwsiz50 rfl (H53.ev rfl) (HO.get 1 rfl) rfl rfl)) ?_
 intro _ H55; clear H53
 refine gq_call H55 (want_yes H55 rfl rfl rfl rfl) rfl (by decide) (fun wq hq => have HO := O32.after hq; (op_callL Try.func54 (by kernel_rfl) rfl rfl (ar_cons (H55.ev rfl) ar_nil))) (fun wq hq => have HO := O32.after hq; (used_ref Am cm files d.most d.fuse d.down _ (view_C (HO.get 4 rfl)) (view_le (HO.get 4 rfl)) hlf (by omega)).mono fun e w' h => ⟨h.1, below_then hq h.2⟩) ?_
 intro _ H57; clear H55
 refine gq_ev H57 (want_yes H57 rfl rfl rfl rfl) rfl (by decide) (fun wq hq => have HO := O32.after hq; (op_sub rfl (H57.ev rfl) (H57.ev rfl) (by omega))) ?_
 intro _ H59; clear H57
 refine gq_ev H59 (want_yes H59 rfl rfl rfl rfl) rfl (by decide) (fun wq hq => have HO := O32.after hq; (op_nei rfl (H59.ev rfl) (H59.ev rfl))) ?_
 intro _ H61; clear H59
 have H62 := H61.lit (b := false) (by rw [decide_eq_false_iff_not]; omega)
 clear H61
 refine gq_ev H62 (want_none rfl) rfl (by decide) (fun wq hq => have HO := O32.after hq; (op_pick_f rfl (H62.ev rfl) (H62.ev rfl))) ?_
 intro _ H64; clear H62
 refine gq_ev H64 (want_none rfl) rfl (by decide) (fun wq hq => have HO := O32.after hq; (op_move rfl (H64.ev rfl))) ?_
 intro _ H66; clear H64
 refine gq_ev H66 (want_yes H66 rfl rfl rfl rfl) rfl (by decide) (fun wq hq => have HO := O32.after hq; (op_move rfl (H66.ev rfl))) ?_
 intro _ H68; clear H66
 refine gq_ev H68 (want_yes H68 rfl rfl rfl rfl) rfl (by decide) (fun wq hq => have HO := O32.after hq; (op_len Try.underlying37 rfl (H68.ev rfl))) ?_
 intro _ H70; clear H68
 refine gq_ev H70 (want_yes H70 rfl rfl rfl rfl) rfl (by decide) (fun wq hq => have HO := O32.after hq; (op_field (gwfld50_0 _ _) rfl (H70.ev rfl))) ?_
 intro _ H72; clear H70
 refine gq_ev H72 (want_yes H72 rfl rfl rfl rfl) rfl (by decide) (fun wq hq => have HO := O32.after hq; (op_load1 gwagg48 rfl (H72.ev rfl) (blk_at (HO.get 1 rfl) rfl))) ?_
 intro _ H74; clear H72
 refine gq_ev H74 (want_yes H74 rfl rfl rfl rfl) rfl (by decide) (fun wq hq => have HO := O32.after hq; (op_len Try.underlying48 rfl (H74.ev rfl))) ?_
 intro _ H76; clear H74
 refine gq_ev H76 (want_yes H76 rfl rfl rfl rfl) rfl (by decide) (fun wq hq => have HO := O32.after hq; (op_nei rfl (H76.ev rfl) (H76.ev rfl))) ?_
 intro _ H78; clear H76
 have H79 := H78.lit (b := false) (by rw [decide_eq_false_iff_not, names_len]; omega)
 clear H78
 refine gq_ev H79 (want_none rfl) rfl (by decide) (fun wq hq => have HO := O32.after hq; (op_pick_f rfl (H79.ev rfl) (H79.ev rfl))) ?_
 intro _ H81; clear H79
 refine wpQuiet_nil ?_
 intro w82 hq
 have O83 := O32.after hq
 clear O32 hq
 refine gw_nx (hK30 _ _ ?_)
 refine gw_cond H81 rfl (fun hb84 => ?_) (fun hb84 => ?_)
 skip
 ·
  cases hb84
 refine wp_skip ?_
 refine gw_nx (hK29 _ _ ?_)
 refine gw_seq fun K85 hK85 => ?_
 refine gw_seq fun K86 hK86 => ?_
 refine wp_region_lit ?_
 refine V H81 (op_field (gwfld50_0 _ _) rfl (H81.ev rfl)) ?_
 intro _ H88; clear H81
 refine V H88 (op_load1 gwagg48 rfl (H88.ev rfl) (blk_at (O83.get 1 rfl) rfl)) ?_
 intro _ H90; clear H88
 refine V H90 (op_len Try.underlying48 rfl (H90.ev rfl)) ?_
 intro _ H92; clear H90
 refine V H92 (op_move rfl (ev_c _ _)) ?_
 intro _ H94; clear H92
 refine wpList_nil ?_
 refine gw_nx (hK86 _ _ ?_)
 refine wp_block ?_
 refine gw_loop (fun m_ a_ w_ => ∃ (i : Int), Fr 81 a_ [(39, J i), (0, .pointer (some ⟨gd, 0, none⟩)), (3, .pointer (some ⟨g2, 0, none⟩)), (5, .slice A13 ((namesD d).length) c14), (37, .slice Am files.length cm), (38, J (files.length : Int))] ∧ Own w0 w_ [Chunk.view Kd.string S15 A13 ((namesD d).length) c14 (namesD d), Bk g2 [.slice Am files.length cm, J d.most, J d.fuse, .bool d.down] 50, R, Chunk.disk w0.heap.size gd S d, Chunk.view k93 Sm Am files.length cm files] ∧ (0 ≤ i ∧ i ≤ files.length) ∧ m_ = (files.length - i.toNat)) ((files.length - (0 : Int).toNat)) ?_ ?_
 ·
  refine ⟨0, (H94.pick (t := 39) rfl (H94.pick (t := 0) rfl (H94.pick (t := 3) rfl (H94.pick (t := 5) rfl (H94.pick (t := 37) rfl (H94.pick (t := 38) rfl H94.nil)))))), O83.sel [0, 1, 2, 3, 4] (by decide), ?_, rfl⟩
  ·
   omega
 ·
  rintro m96 _ w98 ⟨i, H99, O100, hi, hm101⟩
  have hXn := fun h => names_at hd i.toNat z93 h
  have hlx := hlx0 i.toNat
  refine gw_seq fun K102 hK102 => ?_
  refine wp_region_lit ?_
  refine V H99 (op_lss rfl (H99.ev rfl) (H99.ev rfl)) ?_
  intro _ H104; clear H99
  refine wpList_nil ?_
  refine gw_nx (hK102 _ _ ?_)
  refine gw_seq fun K105 hK105 => ?_
  refine gw_cond H104 rfl (fun hb106 => ?_) (fun hb106 => ?_)
  ·
   have H107 := H104.subst_ (d := 40) (b := true) rfl hb106
   clear H104
   (try simp only [decide_eq_true_eq] at hb106)
   refine wp_skip ?_
   refine gw_nx (hK105 _ _ ?_)
   refine gw_seq fun K108 hK108 => ?_
   refine wp_block ?_
   refine gw_seq fun K109 hK109 => ?_
   refine wp_region_lit ?_
   refine V H107 (op_move rfl (H107.ev rfl)) ?_
   intro _ H111; clear H107
   have O118 := O100.pin 4 rfl
   clear O100
   have O119 : Own w0 w98 [Chunk.view Kd.string S15 A13 ((namesD d).length) c14 (namesD d), Bk g2 [.slice Am files.length cm, J d.most, J d.fuse, .bool d.down] 50, R, Chunk.disk w0.heap.size gd S d, Chunk.viewAt w98 k93 Sm Am files.length cm files] := O118
   clear O118
   obtain ⟨ad112, cs115, hA113, hl116, hK117, hc114, _⟩ := Kd.F_get (viewAt_F (O119.get 4 rfl)) z93 i (by omega) (by omega)
   obtain ⟨A120, c121, rfl, hl122, hC123⟩ := k93_openF hK117
   clear hl116
   refine V H111 (op_index Try.underlying48 gwsiz93 rfl (H111.ev rfl) (H111.ev rfl) hA113 (⟨by omega, by omega⟩)) ?_
   intro _ H125; clear H111
   refine V H125 (op_loadc gwagg93 gwsiz93 rfl (H125.ev rfl) rfl ((pin_cells (O119.get 4 rfl) hA113 hc114))) ?_
   intro _ H127; clear H125
   refine gw_new H127 O119 (want_none rfl) rfl (by decide) (op_alloc gwzer93 rfl) ?_
   intro g128 _ w130 H131 O132; clear H127 O119
   have O133 : Own w0 w130 [Bk g128 [.string (⟨#[]⟩ : ByteArray), .slice none 0 0, J 0] 93, Chunk.view Kd.string S15 A13 ((namesD d).length) c14 (namesD d), Bk g2 [.slice Am files.length cm, J d.most, J d.fuse, .bool d.down] 50, R, Chunk.disk w0.heap.size gd S d, Chunk.viewAt w98 k93 Sm Am files.length cm files] := O132
   clear O132
   refine V H131 (op_assign rfl (H131.ev rfl)) ?_
   intro _ H135; clear H131
   refine gw_setn 0 H135 O133 rfl (want_none rfl) rfl (op_storen gwsiz93 rfl (H135.ev rfl) (H135.ev rfl) (O133.get 0 rfl) rfl (by simp) (by simp [Value.oneCell'])) ?_
   intro _ w138 H137 O139; clear H135 O133
   have O140 : Own w0 w138 [Bk g128 [.string ((files.getD i.toNat z93).f0), .slice A120 ((files.getD i.toNat z93).f1.length) c121, J ((files.getD i.toNat z93).f2)] 93, Chunk.view Kd.string S15 A13 ((namesD d).length) c14 (namesD d), Bk g2 [.slice Am files.length cm, J d.most, J d.fuse, .bool d.down] 50, R, Chunk.disk w0.heap.size gd S d, Chunk.viewAt w98 k93 Sm Am files.length cm files] := O139
   clear O139
   refine wpList_nil ?_
   refine gw_nx (hK109 _ _ ?_)
   refine gw_seq fun K141 hK141 => ?_
   refine wp_region_lit ?_
   refine V H137 (op_move rfl (H137.ev rfl)) ?_
   intro _ H143; clear H137
   refine V H143 (op_field (gwfld93_0 _ _) rfl (H143.ev rfl)) ?_
   intro _ H145; clear H143
   refine V H145 (op_load1 gwagg9 rfl (H145.ev rfl) (blk_at (O140.get 0 rfl) rfl)) ?_
   intro _ H147; clear H145
   refine gw_call H147 (want_none rfl) rfl (by decide) (op_callL Try.func18 (by kernel_rfl) rfl rfl (ar_cons (H147.ev rfl) (ar_cons (H147.ev rfl) ar_nil))) ((by have h_ := read_calls w0.heap.size gd S d ((files.getD i.toNat z93).f0) _ (by exact O140.get 4 rfl) (by have h_ := hlx (by omega); omega) hw hus; rw [show (readD ((files.getD i.toNat z93).f0) d) = (([] : List Int), 70) from (read_down hup)] at h_; (try dsimp only at h_); exact h_)) ?_
   rintro e151 w152 ⟨A148, c149, S150, rfl, hb153⟩
   refine ⟨_, rfl, fun _ H155 => ?_⟩
   have O156 := O140.fresh hb153
   have hbel157 := O140.below
   clear H147 O140 hb153
   have O158 := O156.lowrow 0 rfl (base' := w0.heap.size) (Below.size hbel157)
   have O159 : Own w0 w152 [Chunk.row (Kd.int .u8) 5 w0.heap.size S150 (.slice A148 (([] : List Int).length) c149) ([] : List Int), Bk g128 [.string ((files.getD i.toNat z93).f0), .slice A120 ((files.getD i.toNat z93).f1.length) c121, J ((files.getD i.toNat z93).f2)] 93, Chunk.view Kd.string S15 A13 ((namesD d).length) c14 (namesD d), Bk g2 [.slice Am files.length cm, J d.most, J d.fuse, .bool d.down] 50, R, Chunk.disk w0.heap.size gd S d, Chunk.viewAt w98 k93 Sm Am files.length cm files] := O158
   clear O158
   refine V H155 (op_move rfl (H155.ev rfl)) ?_
   intro _ H161; clear H155
   refine V H161 (op_extract rfl (H161.ev rfl) rfl) ?_
   intro _ H163; clear H161
   refine V H163 (op_extract rfl (H163.ev rfl) rfl) ?_
   intro _ H165; clear H163
   refine V H165 (op_assign rfl (H165.ev rfl)) ?_
   intro _ H167; clear H165
   refine V H167 (op_assign rfl (H167.ev rfl)) ?_
   intro _ H169; clear H167
   refine wpList_nil ?_
   refine gw_nx (hK141 _ _ ?_)
   refine gw_seq fun K170 hK170 => ?_
   refine gw_seq fun K171 hK171 => ?_
   refine gw_drawB O159 (by kernel_rfl) (by kernel_rfl) fun w172 O173 => ?_
   clear O159
   refine gq_ev H169 (want_none rfl) rfl (by decide) (fun wq hq => have HO := O173.after hq; (op_move rfl (H169.ev rfl))) ?_
   intro _ H175; clear H169
   refine gq_ev H175 (want_none rfl) rfl (by decide) (fun wq hq => have HO := O173.after hq; (op_move rfl (H175.ev rfl))) ?_
   intro _ H177; clear H175
   have O184 := O173.pin 2 rfl
   clear O173
   have O185 : Own w0 w172 [Chunk.row (Kd.int .u8) 5 w0.heap.size S150 (.slice A148 (([] : List Int).length) c149) ([] : List Int), Bk g128 [.string ((files.getD i.toNat z93).f0), .slice A120 ((files.getD i.toNat z93).f1.length) c121, J ((files.getD i.toNat z93).f2)] 93, Chunk.viewAt w172 Kd.string S15 A13 ((namesD d).length) c14 (namesD d), Bk g2 [.slice Am files.length cm, J d.most, J d.fuse, .bool d.down] 50, R, Chunk.disk w0.heap.size gd S d, Chunk.viewAt w98 k93 Sm Am files.length cm files] := O184
   clear O184
   obtain ⟨ad178, cs181, hA179, hl182, hK183, hc180, _⟩ := Kd.F_get (viewAt_F (O185.get 2 rfl)) (⟨#[]⟩ : ByteArray) i (by omega) (by omega)
   obtain rfl := str_openF hK183
   clear hl182
   refine gq_ev H177 (want_none rfl) rfl (by decide) (fun wq hq => have HO := O185.after hq; (op_index Try.underlying37 gwsiz9 rfl (H177.ev rfl) (H177.ev rfl) hA179 (⟨by omega, by omega⟩))) ?_
   intro _ H187; clear H177
   refine gq_ev H187 (want_none rfl) rfl (by decide) (fun wq hq => have HO := O185.after hq; (op_load1 gwagg9 rfl (H187.ev rfl) (((pin_cells (HO.get 2 rfl) hA179 hc180) 0 _ rfl)))) ?_
   intro _ H189; clear H187
   have H190 := H189.conv (v' := .string ((files.getD i.toNat z93).f0)) (congrArg Value.string (names_at hd i.toNat z93 (by omega)))
   clear H189
   refine gq_ev H190 (want_none rfl) rfl (by decide) (fun wq hq => have HO := O185.after hq; (op_field (gwfld93_0 _ _) rfl (H190.ev rfl))) ?_
   intro _ H192; clear H190
   refine gq_ev H192 (want_none rfl) rfl (by decide) (fun wq hq => have HO := O185.after hq; (op_load1 gwagg9 rfl (H192.ev rfl) (blk_at (HO.get 1 rfl) rfl))) ?_
   intro _ H194; clear H192
   refine gq_ev H194 (want_none rfl) rfl (by decide) (fun wq hq => have HO := O185.after hq; (op_nes rfl (H194.ev rfl) (H194.ev rfl))) ?_
   intro _ H196; clear H194
   have H197 := H196.lit (b := false) (by simp)
   clear H196
   refine wpQuiet_nil ?_
   intro w198 hq
   have O199 := O185.after hq
   clear O185 hq
   refine gw_nx (hK171 _ _ ?_)
   refine gw_cond H197 rfl (fun hb200 => ?_) (fun hb200 => ?_)
   skip
   ·
    cases hb200
   refine wp_skip ?_
   refine gw_nx (hK170 _ _ ?_)
   refine gw_seq fun K201 hK201 => ?_
   refine gw_seq fun K202 hK202 => ?_
   refine wp_region_lit ?_
   refine V H197 (op_field (gwfld50_3 _ _) rfl (H197.ev rfl)) ?_
   intro _ H204; clear H197
   refine V H204 (op_load1 gwagg4 rfl (H204.ev rfl) (blk_at (O199.get 3 rfl) rfl)) ?_
   intro _ H206; clear H204
   have H207 := H206.lit (b := true) (hup)
   clear H206
   refine wpList_nil ?_
   refine gw_nx (hK202 _ _ ?_)
   refine gw_cond H207 rfl (fun hb208 => ?_) (fun hb208 => ?_)
   rotate_left
   ·
    cases hb208
   refine gw_seq fun K209 hK209 => ?_
   refine gw_seq fun K210 hK210 => ?_
   refine wp_region_lit ?_
   refine V H207 (op_move rfl (H207.ev rfl)) ?_
   intro _ H212; clear H207
   refine V H212 (op_nei rfl (H212.ev rfl) (ev_c _ _)) ?_
   intro _ H214; clear H212
   have H215 := H214.lit (b := false) (by decide)
   clear H214
   refine wpList_nil ?_
   refine gw_nx (hK210 _ _ ?_)
   refine gw_cond H215 rfl (fun hb216 => ?_) (fun hb216 => ?_)
   skip
   ·
    cases hb216
   refine wp_skip ?_
   refine gw_nx (hK209 _ _ ?_)
   refine wp_exit ?_
   refine gw_thx ?_
   refine gw_in ?_
   refine gw_nx (hK108 _ _ ?_)
   refine wp_region_lit ?_
   refine V H215 (op_add rfl (H215.ev rfl) (ev_c _ _) (by omega)) ?_
   intro _ H218; clear H215
   refine V H218 (op_move rfl (H218.ev rfl)) ?_
   intro _ H220; clear H218
   refine wpList_nil ?_
   have O221 := O199.unpin 2 rfl
   clear O199
   have O222 : Own w0 w198 [Chunk.row (Kd.int .u8) 5 w0.heap.size S150 (.slice A148 (([] : List Int).length) c149) ([] : List Int), Bk g128 [.string ((files.getD i.toNat z93).f0), .slice A120 ((files.getD i.toNat z93).f1.length) c121, J ((files.getD i.toNat z93).f2)] 93, Chunk.view Kd.string S15 A13 ((namesD d).length) c14 (namesD d), Bk g2 [.slice Am files.length cm, J d.most, J d.fuse, .bool d.down] 50, R, Chunk.disk w0.heap.size gd S d, Chunk.viewAt w98 k93 Sm Am files.length cm files] := O221
   clear O221
   have O223 := O222.unpin 6 rfl
   clear O222
   have O224 : Own w0 w198 [Chunk.row (Kd.int .u8) 5 w0.heap.size S150 (.slice A148 (([] : List Int).length) c149) ([] : List Int), Bk g128 [.string ((files.getD i.toNat z93).f0), .slice A120 ((files.getD i.toNat z93).f1.length) c121, J ((files.getD i.toNat z93).f2)] 93, Chunk.view Kd.string S15 A13 ((namesD d).length) c14 (namesD d), Bk g2 [.slice Am files.length cm, J d.most, J d.fuse, .bool d.down] 50, R, Chunk.disk w0.heap.size gd S d, Chunk.view k93 Sm Am files.length cm files] := O223
   clear O223
   refine gw_nx ⟨_, ?_, i + 1, (H220.pick (t := 39) rfl (H220.pick (t := 0) rfl (H220.pick (t := 3) rfl (H220.pick (t := 5) rfl (H220.pick (t := 37) rfl (H220.pick (t := 38) rfl H220.nil)))))), O224.sel [2, 3, 4, 5, 6] (by decide), ?_, rfl⟩
   ·
    rw [hm101]; omega
   ·
    omega
  ·
   have H225 := H104.subst_ (d := 40) (b := false) rfl hb106
   clear H104
   (try simp only [decide_eq_false_iff_not, Int.not_lt] at hb106)
   refine wp_exit ?_
   refine gw_thx ?_
   refine gw_thx ?_
   refine gw_in ?_
   refine gw_nx (hK85 _ _ ?_)
   refine gw_seq fun K226 hK226 => ?_
   refine wp_region_lit ?_
   refine V H225 (op_assign rfl (ev_c _ _)) ?_
   intro _ H228; clear H225
   refine wpList_nil ?_
   refine gw_nx (hK226 _ _ ?_)
   refine wp_ret ?_
   refine gw_ret1 H228 rfl rfl ?_
   exact ⟨rfl, O100.sel [2, 3, 4] (by decide)⟩
set_option maxHeartbeats 4000000 in
set_option maxRecDepth 100000 in
theorem same_up (w0 w : World) (R : Chunk) (gd : Nat) (S : Nat → Prop) (d : PD) (Sm : Nat → Prop) (Am : Option Addr) (cm : Nat) (files : List S93) (hd : files.map ofS = d.fs) (hw : wfD d) (hlen : d.fs.length ≤ 1000000) (hus : d.used ≤ 140737488355327) (hup : d.down = false) (HO : Own w0 w [R, Chunk.disk w0.heap.size gd S d, Chunk.view k93 Sm Am files.length cm files]) :
    Calls Try.prog 29 #[.pointer (some ⟨gd, 0, none⟩), .agg #[.slice Am files.length cm, .int .i64 d.most, .int .i64 d.fuse, .bool d.down]] w fun e w' => e = .returned (.bool true) ∧ Own w0 w' [R, Chunk.disk w0.heap.size gd S d, Chunk.view k93 Sm Am files.length cm files] := by
 have hlf : files.length ≤ 1000000 := by rw [← hd, List.length_map] at hlen; exact hlen
 have hfl : files.length = d.fs.length := by rw [← hd, List.length_map]
 have husd : (((files.map fun x => x.f1.length).sum : Nat) : Int) = d.used := by rw [← used_of, hd, hw.used]; rfl
 have hmo := hw.most
 have huo := hw.used
 have hnn := names_len d
 have hlx0 : ∀ i : Nat, i < files.length → (files.getD i z93).f0.size ≤ 40 ∧ ((files.getD i z93).f1.length : Int) ≤ d.used := fun i hi => by have hm : ofS (files.getD i z93) ∈ d.fs := (by rw [← hd]; exact List.mem_map_of_mem (getD_mem files i hi)); exact ⟨hw.nm _ hm, wf_len hw hm⟩
 refine gw_startO (N := 81) (vs := [.pointer (some ⟨gd, 0, none⟩), .agg #[.slice Am files.length cm, J d.most, J d.fuse, .bool d.down]]) Try.func29 rfl rfl (by simp) fun a HF => ?_
 refine gw_seq fun K1 hK1 => ?_
 refine wp_region_lit ?_
 refine gw_new HF HO (want_none rfl) rfl (by decide) (op_box rfl (HF.ev rfl)) ?_
 intro g2 _ w4 H5 O6; clear HF HO
 have O7 : Own w0 w4 [Bk g2 [.slice Am files.length cm, J d.most, J d.fuse, .bool d.down] 50, R, Chunk.disk w0.heap.size gd S d, Chunk.view k93 Sm Am files.length cm files] := O6
 clear O6
 refine V H5 (op_assign rfl (ev_c _ _)) ?_
 intro _ H9; clear H5
 refine wpList_nil ?_
 refine gw_nx (hK1 _ _ ?_)
 refine gw_seq fun K10 hK10 => ?_
 refine wp_region_lit ?_
 refine V H9 (op_move rfl (H9.ev rfl)) ?_
 intro _ H12; clear H9
 refine gw_call H12 (want_none rfl) rfl (by decide) (op_callL Try.func22 (by kernel_rfl) rfl rfl (ar_cons (H12.ev rfl) ar_nil)) (names_calls w0.heap.size gd S d _ (by exact O7.get 2 rfl) hlen) ?_
 rintro e16 w17 ⟨A13, c14, S15, rfl, hb18⟩
 refine ⟨_, rfl, fun _ H20 => ?_⟩
 have O21 := O7.fresh hb18
 have hbel22 := O7.below
 clear H12 O7 hb18
 have O23 := O21.lowrow 0 rfl (base' := w0.heap.size) (Below.size hbel22)
 have O24 : Own w0 w17 [Chunk.row Kd.string 9 w0.heap.size S15 (.slice A13 ((namesD d).length) c14) (namesD d), Bk g2 [.slice Am files.length cm, J d.most, J d.fuse, .bool d.down] 50, R, Chunk.disk w0.heap.size gd S d, Chunk.view k93 Sm Am files.length cm files] := O23
 clear O23
 have O25 := O24.row_view 0 rfl
 clear O24
 have O26 : Own w0 w17 [Chunk.view Kd.string S15 A13 ((namesD d).length) c14 (namesD d), Bk g2 [.slice Am files.length cm, J d.most, J d.fuse, .bool d.down] 50, R, Chunk.disk w0.heap.size gd S d, Chunk.view k93 Sm Am files.length cm files] := O25
 clear O25
 refine V H20 (op_assign rfl (H20.ev rfl)) ?_
 intro _ H28; clear H20
 refine wpList_nil ?_
 refine gw_nx (hK10 _ _ ?_)
 refine gw_seq fun K29 hK29 => ?_
 refine gw_seq fun K30 hK30 => ?_
 refine gw_drawB O26 (by kernel_rfl) (by kernel_rfl) fun w31 O32 => ?_
 clear O26
 refine gq_ev H28 (want_none rfl) rfl (by decide) (fun wq hq => have HO := O32.after hq; (op_move rfl (H28.ev rfl))) ?_
 intro _ H34; clear H28
 refine gq_call H34 (want_none rfl) rfl (by decide) (fun wq hq => have HO := O32.after hq; (op_callL Try.func21 (by kernel_rfl) rfl rfl (ar_cons (H34.ev rfl) ar_nil))) (fun wq hq => have HO := O32.after hq; (down_calls w0.heap.size gd S d _ (HO.get 3 rfl)).mono fun e w' h => ⟨h.1, below_then hq h.2⟩) ?_
 intro _ H36; clear H34
 refine gq_ev H36 (want_none rfl) rfl (by decide) (fun wq hq => have HO := O32.after hq; (op_field (gwfld50_3 _ _) rfl (H36.ev rfl))) ?_
 intro _ H38; clear H36
 refine gq_ev H38 (want_none rfl) rfl (by decide) (fun wq hq => have HO := O32.after hq; (op_load1 gwagg4 rfl (H38.ev rfl) (blk_at (HO.get 1 rfl) rfl))) ?_
 intro _ H40; clear H38
 refine gq_ev H40 (want_none rfl) rfl (by decide) (fun wq hq => have HO := O32.after hq; (op_neb Try.underlying4 rfl (H40.ev rfl) (H40.ev rfl))) ?_
 intro _ H42; clear H40
 have H43 := H42.lit (b := false) (by simp)
 clear H42
 refine gq_ev H43 (want_none rfl) rfl (by decide) (fun wq hq => have HO := O32.after hq; (op_move rfl (H43.ev rfl))) ?_
 intro _ H45; clear H43
 refine gq_ev H45 (want_yes H45 rfl rfl rfl rfl) rfl (by decide) (fun wq hq => have HO := O32.after hq; (op_move rfl (H45.ev rfl))) ?_
 intro _ H47; clear H45
 refine gq_call H47 (want_yes H47 rfl rfl rfl rfl) rfl (by decide) (fun wq hq => have HO := O32.after hq; (op_callL Try.func24 (by kernel_rfl) rfl rfl (ar_cons (H47.ev rfl) ar_nil))) (fun wq hq => have HO := O32.after hq; (room_calls w0.heap.size gd S d _ (HO.get 3 rfl) hw).mono fun e w' h => ⟨h.1, below_then hq h.2⟩) ?_
 intro _ H49; clear H47
 refine gq_ev H49 (want_yes H49 rfl rfl rfl rfl) rfl (by decide) (fun wq hq => have HO := O32.after hq; (op_field (gwfld50_1 _ _) rfl (H49.ev rfl))) ?_
 intro _ H51; clear H49
 refine gq_ev H51 (want_yes H51 rfl rfl rfl rfl) rfl (by decide) (fun wq hq => have HO := O32.after hq; (op_load1 gwagg3 rfl (H51.ev rfl) (blk_at (HO.get 1 rfl) rfl))) ?_
 intro _ H53; clear H51
 refine gq_ev H53 (want_yes H53 rfl rfl rfl rfl) rfl (by decide) (fun wq hq => have HO := O32.after hq; (op_loadn gwagg50 gwsiz50 rfl (H53.ev rfl) (HO.get 1 rfl) rfl rfl)) ?_
 intro _ H55; clear H53
 refine gq_call H55 (want_yes H55 rfl rfl rfl rfl) rfl (by decide) (fun wq hq => have HO := O32.after hq; (op_callL Try.func54 (by kernel_rfl) rfl rfl (ar_cons (H55.ev rfl) ar_nil))) (fun wq hq => have HO := O32.after hq; (used_ref Am cm files d.most d.fuse d.down _ (view_C (HO.get 4 rfl)) (view_le (HO.get 4 rfl)) hlf (by omega)).mono fun e w' h => ⟨h.1, below_then hq h.2⟩) ?_
 intro _ H57; clear H55
 refine gq_ev H57 (want_yes H57 rfl rfl rfl rfl) rfl (by decide) (fun wq hq => have HO := O32.after hq; (op_sub rfl (H57.ev rfl) (H57.ev rfl) (by omega))) ?_
 intro _ H59; clear H57
 refine gq_ev H59 (want_yes H59 rfl rfl rfl rfl) rfl (by decide) (fun wq hq => have HO := O32.after hq; (op_nei rfl (H59.ev rfl) (H59.ev rfl))) ?_
 intro _ H61; clear H59
 have H62 := H61.lit (b := false) (by rw [decide_eq_false_iff_not]; omega)
 clear H61
 refine gq_ev H62 (want_none rfl) rfl (by decide) (fun wq hq => have HO := O32.after hq; (op_pick_f rfl (H62.ev rfl) (H62.ev rfl))) ?_
 intro _ H64; clear H62
 refine gq_ev H64 (want_none rfl) rfl (by decide) (fun wq hq => have HO := O32.after hq; (op_move rfl (H64.ev rfl))) ?_
 intro _ H66; clear H64
 refine gq_ev H66 (want_yes H66 rfl rfl rfl rfl) rfl (by decide) (fun wq hq => have HO := O32.after hq; (op_move rfl (H66.ev rfl))) ?_
 intro _ H68; clear H66
 refine gq_ev H68 (want_yes H68 rfl rfl rfl rfl) rfl (by decide) (fun wq hq => have HO := O32.after hq; (op_len Try.underlying37 rfl (H68.ev rfl))) ?_
 intro _ H70; clear H68
 refine gq_ev H70 (want_yes H70 rfl rfl rfl rfl) rfl (by decide) (fun wq hq => have HO := O32.after hq; (op_field (gwfld50_0 _ _) rfl (H70.ev rfl))) ?_
 intro _ H72; clear H70
 refine gq_ev H72 (want_yes H72 rfl rfl rfl rfl) rfl (by decide) (fun wq hq => have HO := O32.after hq; (op_load1 gwagg48 rfl (H72.ev rfl) (blk_at (HO.get 1 rfl) rfl))) ?_
 intro _ H74; clear H72
 refine gq_ev H74 (want_yes H74 rfl rfl rfl rfl) rfl (by decide) (fun wq hq => have HO := O32.after hq; (op_len Try.underlying48 rfl (H74.ev rfl))) ?_
 intro _ H76; clear H74
 refine gq_ev H76 (want_yes H76 rfl rfl rfl rfl) rfl (by decide) (fun wq hq => have HO := O32.after hq; (op_nei rfl (H76.ev rfl) (H76.ev rfl))) ?_
 intro _ H78; clear H76
 have H79 := H78.lit (b := false) (by rw [decide_eq_false_iff_not, names_len]; omega)
 clear H78
 refine gq_ev H79 (want_none rfl) rfl (by decide) (fun wq hq => have HO := O32.after hq; (op_pick_f rfl (H79.ev rfl) (H79.ev rfl))) ?_
 intro _ H81; clear H79
 refine wpQuiet_nil ?_
 intro w82 hq
 have O83 := O32.after hq
 clear O32 hq
 refine gw_nx (hK30 _ _ ?_)
 refine gw_cond H81 rfl (fun hb84 => ?_) (fun hb84 => ?_)
 skip
 ·
  cases hb84
 refine wp_skip ?_
 refine gw_nx (hK29 _ _ ?_)
 refine gw_seq fun K85 hK85 => ?_
 refine gw_seq fun K86 hK86 => ?_
 refine wp_region_lit ?_
 refine V H81 (op_field (gwfld50_0 _ _) rfl (H81.ev rfl)) ?_
 intro _ H88; clear H81
 refine V H88 (op_load1 gwagg48 rfl (H88.ev rfl) (blk_at (O83.get 1 rfl) rfl)) ?_
 intro _ H90; clear H88
 refine V H90 (op_len Try.underlying48 rfl (H90.ev rfl)) ?_
 intro _ H92; clear H90
 refine V H92 (op_move rfl (ev_c _ _)) ?_
 intro _ H94; clear H92
 refine wpList_nil ?_
 refine gw_nx (hK86 _ _ ?_)
 refine wp_block ?_
 refine gw_loop (fun m_ a_ w_ => ∃ (i : Int), Fr 81 a_ [(39, J i), (0, .pointer (some ⟨gd, 0, none⟩)), (3, .pointer (some ⟨g2, 0, none⟩)), (5, .slice A13 ((namesD d).length) c14), (37, .slice Am files.length cm), (38, J (files.length : Int))] ∧ Own w0 w_ [Chunk.view Kd.string S15 A13 ((namesD d).length) c14 (namesD d), Bk g2 [.slice Am files.length cm, J d.most, J d.fuse, .bool d.down] 50, R, Chunk.disk w0.heap.size gd S d, Chunk.view k93 Sm Am files.length cm files] ∧ (0 ≤ i ∧ i ≤ files.length) ∧ m_ = (files.length - i.toNat)) ((files.length - (0 : Int).toNat)) ?_ ?_
 ·
  refine ⟨0, (H94.pick (t := 39) rfl (H94.pick (t := 0) rfl (H94.pick (t := 3) rfl (H94.pick (t := 5) rfl (H94.pick (t := 37) rfl (H94.pick (t := 38) rfl H94.nil)))))), O83.sel [0, 1, 2, 3, 4] (by decide), ?_, rfl⟩
  ·
   omega
 ·
  rintro m96 _ w98 ⟨i, H99, O100, hi, hm101⟩
  have hXn := fun h => names_at hd i.toNat z93 h
  have hlx := hlx0 i.toNat
  refine gw_seq fun K102 hK102 => ?_
  refine wp_region_lit ?_
  refine V H99 (op_lss rfl (H99.ev rfl) (H99.ev rfl)) ?_
  intro _ H104; clear H99
  refine wpList_nil ?_
  refine gw_nx (hK102 _ _ ?_)
  refine gw_seq fun K105 hK105 => ?_
  refine gw_cond H104 rfl (fun hb106 => ?_) (fun hb106 => ?_)
  ·
   have H107 := H104.subst_ (d := 40) (b := true) rfl hb106
   clear H104
   (try simp only [decide_eq_true_eq] at hb106)
   refine wp_skip ?_
   refine gw_nx (hK105 _ _ ?_)
   refine gw_seq fun K108 hK108 => ?_
   refine wp_block ?_
   refine gw_seq fun K109 hK109 => ?_
   refine wp_region_lit ?_
   refine V H107 (op_move rfl (H107.ev rfl)) ?_
   intro _ H111; clear H107
   have O118 := O100.pin 4 rfl
   clear O100
   have O119 : Own w0 w98 [Chunk.view Kd.string S15 A13 ((namesD d).length) c14 (namesD d), Bk g2 [.slice Am files.length cm, J d.most, J d.fuse, .bool d.down] 50, R, Chunk.disk w0.heap.size gd S d, Chunk.viewAt w98 k93 Sm Am files.length cm files] := O118
   clear O118
   obtain ⟨ad112, cs115, hA113, hl116, hK117, hc114, _⟩ := Kd.F_get (viewAt_F (O119.get 4 rfl)) z93 i (by omega) (by omega)
   obtain ⟨A120, c121, rfl, hl122, hC123⟩ := k93_openF hK117
   clear hl116
   refine V H111 (op_index Try.underlying48 gwsiz93 rfl (H111.ev rfl) (H111.ev rfl) hA113 (⟨by omega, by omega⟩)) ?_
   intro _ H125; clear H111
   refine V H125 (op_loadc gwagg93 gwsiz93 rfl (H125.ev rfl) rfl ((pin_cells (O119.get 4 rfl) hA113 hc114))) ?_
   intro _ H127; clear H125
   refine gw_new H127 O119 (want_none rfl) rfl (by decide) (op_alloc gwzer93 rfl) ?_
   intro g128 _ w130 H131 O132; clear H127 O119
   have O133 : Own w0 w130 [Bk g128 [.string (⟨#[]⟩ : ByteArray), .slice none 0 0, J 0] 93, Chunk.view Kd.string S15 A13 ((namesD d).length) c14 (namesD d), Bk g2 [.slice Am files.length cm, J d.most, J d.fuse, .bool d.down] 50, R, Chunk.disk w0.heap.size gd S d, Chunk.viewAt w98 k93 Sm Am files.length cm files] := O132
   clear O132
   refine V H131 (op_assign rfl (H131.ev rfl)) ?_
   intro _ H135; clear H131
   refine gw_setn 0 H135 O133 rfl (want_none rfl) rfl (op_storen gwsiz93 rfl (H135.ev rfl) (H135.ev rfl) (O133.get 0 rfl) rfl (by simp) (by simp [Value.oneCell'])) ?_
   intro _ w138 H137 O139; clear H135 O133
   have O140 : Own w0 w138 [Bk g128 [.string ((files.getD i.toNat z93).f0), .slice A120 ((files.getD i.toNat z93).f1.length) c121, J ((files.getD i.toNat z93).f2)] 93, Chunk.view Kd.string S15 A13 ((namesD d).length) c14 (namesD d), Bk g2 [.slice Am files.length cm, J d.most, J d.fuse, .bool d.down] 50, R, Chunk.disk w0.heap.size gd S d, Chunk.viewAt w98 k93 Sm Am files.length cm files] := O139
   clear O139
   refine wpList_nil ?_
   refine gw_nx (hK109 _ _ ?_)
   refine gw_seq fun K141 hK141 => ?_
   refine wp_region_lit ?_
   refine V H137 (op_move rfl (H137.ev rfl)) ?_
   intro _ H143; clear H137
   refine V H143 (op_field (gwfld93_0 _ _) rfl (H143.ev rfl)) ?_
   intro _ H145; clear H143
   refine V H145 (op_load1 gwagg9 rfl (H145.ev rfl) (blk_at (O140.get 0 rfl) rfl)) ?_
   intro _ H147; clear H145
   refine gw_call H147 (want_none rfl) rfl (by decide) (op_callL Try.func18 (by kernel_rfl) rfl rfl (ar_cons (H147.ev rfl) (ar_cons (H147.ev rfl) ar_nil))) ((by have h_ := read_calls w0.heap.size gd S d ((files.getD i.toNat z93).f0) _ (by exact O140.get 4 rfl) (by have h_ := hlx (by omega); omega) hw hus; rw [show (readD ((files.getD i.toNat z93).f0) d) = ((files.getD i.toNat z93).f1, 0) from (readR hd hw hup i.toNat z93 (by omega))] at h_; (try dsimp only at h_); exact h_)) ?_
   rintro e151 w152 ⟨A148, c149, S150, rfl, hb153⟩
   refine ⟨_, rfl, fun _ H155 => ?_⟩
   have O156 := O140.fresh hb153
   have hbel157 := O140.below
   clear H147 O140 hb153
   have O158 := O156.lowrow 0 rfl (base' := w0.heap.size) (Below.size hbel157)
   have O159 : Own w0 w152 [Chunk.row (Kd.int .u8) 5 w0.heap.size S150 (.slice A148 (((files.getD i.toNat z93).f1).length) c149) ((files.getD i.toNat z93).f1), Bk g128 [.string ((files.getD i.toNat z93).f0), .slice A120 ((files.getD i.toNat z93).f1.length) c121, J ((files.getD i.toNat z93).f2)] 93, Chunk.view Kd.string S15 A13 ((namesD d).length) c14 (namesD d), Bk g2 [.slice Am files.length cm, J d.most, J d.fuse, .bool d.down] 50, R, Chunk.disk w0.heap.size gd S d, Chunk.viewAt w98 k93 Sm Am files.length cm files] := O158
   clear O158
   refine V H155 (op_move rfl (H155.ev rfl)) ?_
   intro _ H161; clear H155
   refine V H161 (op_extract rfl (H161.ev rfl) rfl) ?_
   intro _ H163; clear H161
   refine V H163 (op_extract rfl (H163.ev rfl) rfl) ?_
   intro _ H165; clear H163
   refine V H165 (op_assign rfl (H165.ev rfl)) ?_
   intro _ H167; clear H165
   refine V H167 (op_assign rfl (H167.ev rfl)) ?_
   intro _ H169; clear H167
   refine wpList_nil ?_
   refine gw_nx (hK141 _ _ ?_)
   refine gw_seq fun K170 hK170 => ?_
   refine gw_seq fun K171 hK171 => ?_
   refine gw_drawB O159 (by kernel_rfl) (by kernel_rfl) fun w172 O173 => ?_
   clear O159
   refine gq_ev H169 (want_none rfl) rfl (by decide) (fun wq hq => have HO := O173.after hq; (op_move rfl (H169.ev rfl))) ?_
   intro _ H175; clear H169
   refine gq_ev H175 (want_none rfl) rfl (by decide) (fun wq hq => have HO := O173.after hq; (op_move rfl (H175.ev rfl))) ?_
   intro _ H177; clear H175
   have O184 := O173.pin 2 rfl
   clear O173
   have O185 : Own w0 w172 [Chunk.row (Kd.int .u8) 5 w0.heap.size S150 (.slice A148 (((files.getD i.toNat z93).f1).length) c149) ((files.getD i.toNat z93).f1), Bk g128 [.string ((files.getD i.toNat z93).f0), .slice A120 ((files.getD i.toNat z93).f1.length) c121, J ((files.getD i.toNat z93).f2)] 93, Chunk.viewAt w172 Kd.string S15 A13 ((namesD d).length) c14 (namesD d), Bk g2 [.slice Am files.length cm, J d.most, J d.fuse, .bool d.down] 50, R, Chunk.disk w0.heap.size gd S d, Chunk.viewAt w98 k93 Sm Am files.length cm files] := O184
   clear O184
   obtain ⟨ad178, cs181, hA179, hl182, hK183, hc180, _⟩ := Kd.F_get (viewAt_F (O185.get 2 rfl)) (⟨#[]⟩ : ByteArray) i (by omega) (by omega)
   obtain rfl := str_openF hK183
   clear hl182
   refine gq_ev H177 (want_none rfl) rfl (by decide) (fun wq hq => have HO := O185.after hq; (op_index Try.underlying37 gwsiz9 rfl (H177.ev rfl) (H177.ev rfl) hA179 (⟨by omega, by omega⟩))) ?_
   intro _ H187; clear H177
   refine gq_ev H187 (want_none rfl) rfl (by decide) (fun wq hq => have HO := O185.after hq; (op_load1 gwagg9 rfl (H187.ev rfl) (((pin_cells (HO.get 2 rfl) hA179 hc180) 0 _ rfl)))) ?_
   intro _ H189; clear H187
   have H190 := H189.conv (v' := .string ((files.getD i.toNat z93).f0)) (congrArg Value.string (names_at hd i.toNat z93 (by omega)))
   clear H189
   refine gq_ev H190 (want_none rfl) rfl (by decide) (fun wq hq => have HO := O185.after hq; (op_field (gwfld93_0 _ _) rfl (H190.ev rfl))) ?_
   intro _ H192; clear H190
   refine gq_ev H192 (want_none rfl) rfl (by decide) (fun wq hq => have HO := O185.after hq; (op_load1 gwagg9 rfl (H192.ev rfl) (blk_at (HO.get 1 rfl) rfl))) ?_
   intro _ H194; clear H192
   refine gq_ev H194 (want_none rfl) rfl (by decide) (fun wq hq => have HO := O185.after hq; (op_nes rfl (H194.ev rfl) (H194.ev rfl))) ?_
   intro _ H196; clear H194
   have H197 := H196.lit (b := false) (by simp)
   clear H196
   refine wpQuiet_nil ?_
   intro w198 hq
   have O199 := O185.after hq
   clear O185 hq
   refine gw_nx (hK171 _ _ ?_)
   refine gw_cond H197 rfl (fun hb200 => ?_) (fun hb200 => ?_)
   skip
   ·
    cases hb200
   refine wp_skip ?_
   refine gw_nx (hK170 _ _ ?_)
   refine gw_seq fun K201 hK201 => ?_
   refine gw_seq fun K202 hK202 => ?_
   refine wp_region_lit ?_
   refine V H197 (op_field (gwfld50_3 _ _) rfl (H197.ev rfl)) ?_
   intro _ H204; clear H197
   refine V H204 (op_load1 gwagg4 rfl (H204.ev rfl) (blk_at (O199.get 3 rfl) rfl)) ?_
   intro _ H206; clear H204
   have H207 := H206.lit (b := false) (hup)
   clear H206
   refine wpList_nil ?_
   refine gw_nx (hK202 _ _ ?_)
   refine gw_cond H207 rfl (fun hb208 => ?_) (fun hb208 => ?_)
   skip
   ·
    cases hb208
   refine wp_skip ?_
   refine gw_nx (hK201 _ _ ?_)
   refine gw_seq fun K209 hK209 => ?_
   refine gw_seq fun K210 hK210 => ?_
   refine wp_region_lit ?_
   refine V H207 (op_move rfl (H207.ev rfl)) ?_
   intro _ H212; clear H207
   refine V H212 (op_nei rfl (H212.ev rfl) (ev_c _ _)) ?_
   intro _ H214; clear H212
   have H215 := H214.lit (b := false) (by decide)
   clear H214
   refine V H215 (op_move rfl (H215.ev rfl)) ?_
   intro _ H217; clear H215
   refine V2 H217 (want_yes H217 rfl rfl rfl rfl) (op_move rfl (H217.ev rfl)) ?_
   intro _ H219; clear H217
   refine V2 H219 (want_yes H219 rfl rfl rfl rfl) (op_field (gwfld93_1 _ _) rfl (H219.ev rfl)) ?_
   intro _ H221; clear H219
   refine V2 H221 (want_yes H221 rfl rfl rfl rfl) (op_load1 gwagg28 rfl (H221.ev rfl) (blk_at (O199.get 1 rfl) rfl)) ?_
   intro _ H223; clear H221
   refine gw_call H223 (want_yes H223 rfl rfl rfl rfl) rfl (by decide) (op_callL Try.func19 (by kernel_rfl) rfl rfl (ar_cons (H223.ev rfl) (ar_cons (H223.ev rfl) ar_nil))) (same_calls A148 c149 ((files.getD i.toNat z93).f1) A120 c121 ((files.getD i.toNat z93).f1) _ (Kd.R_reads' (O199.get 0 rfl)).2.2 (row_cap (O199.get 0 rfl)) (pinC (O199.get 6 rfl) hC123) hl122 (by have h_ := hlx (by omega); omega)) ?_
   rintro e224 w225 ⟨rfl, hb226⟩
   refine ⟨_, rfl, fun _ H228 => ?_⟩
   have O229 := O199.after hb226
   clear H223 O199 hb226
   have H231 := H228.lit (b := true) (by simp)
   clear H228
   refine V2 H231 (want_yes H231 rfl rfl rfl rfl) (op_not rfl (H231.ev rfl)) ?_
   intro _ H233; clear H231
   refine V H233 (op_pick_f rfl (H233.ev rfl) (H233.ev rfl)) ?_
   intro _ H235; clear H233
   refine wpList_nil ?_
   refine gw_nx (hK210 _ _ ?_)
   refine gw_cond H235 rfl (fun hb236 => ?_) (fun hb236 => ?_)
   skip
   ·
    cases hb236
   refine wp_skip ?_
   refine gw_nx (hK209 _ _ ?_)
   refine gw_seq fun K237 hK237 => ?_
   refine wp_region_lit ?_
   refine V H235 (op_move rfl (H235.ev rfl)) ?_
   intro _ H239; clear H235
   refine V H239 (op_len Try.underlying28 rfl (H239.ev rfl)) ?_
   intro _ H241; clear H239
   refine V H241 (op_move rfl (ev_c _ _)) ?_
   intro _ H243; clear H241
   refine wpList_nil ?_
   refine gw_nx (hK237 _ _ ?_)
   refine wp_block ?_
   have O244 := O229.unpin 2 rfl
   clear O229
   have O245 : Own w0 w225 [Chunk.row (Kd.int .u8) 5 w0.heap.size S150 (.slice A148 (((files.getD i.toNat z93).f1).length) c149) ((files.getD i.toNat z93).f1), Bk g128 [.string ((files.getD i.toNat z93).f0), .slice A120 ((files.getD i.toNat z93).f1.length) c121, J ((files.getD i.toNat z93).f2)] 93, Chunk.view Kd.string S15 A13 ((namesD d).length) c14 (namesD d), Bk g2 [.slice Am files.length cm, J d.most, J d.fuse, .bool d.down] 50, R, Chunk.disk w0.heap.size gd S d, Chunk.viewAt w98 k93 Sm Am files.length cm files] := O244
   clear O244
   have O246 := O245.unpin 6 rfl
   clear O245
   have O247 : Own w0 w225 [Chunk.row (Kd.int .u8) 5 w0.heap.size S150 (.slice A148 (((files.getD i.toNat z93).f1).length) c149) ((files.getD i.toNat z93).f1), Bk g128 [.string ((files.getD i.toNat z93).f0), .slice A120 ((files.getD i.toNat z93).f1.length) c121, J ((files.getD i.toNat z93).f2)] 93, Chunk.view Kd.string S15 A13 ((namesD d).length) c14 (namesD d), Bk g2 [.slice Am files.length cm, J d.most, J d.fuse, .bool d.down] 50, R, Chunk.disk w0.heap.size gd S d, Chunk.view k93 Sm Am files.length cm files] := O246
   clear O246
   refine gw_loop (fun m_ a_ w_ => ∃ (p249 : Int) (X248 : List Int), Fr 81 a_ [(73, J p249), (39, J i), (0, .pointer (some ⟨gd, 0, none⟩)), (3, .pointer (some ⟨g2, 0, none⟩)), (5, .slice A13 ((namesD d).length) c14), (37, .slice Am files.length cm), (38, J (files.length : Int)), (40, .bool true), (41, J i), (42, .pointer (some (ad112.add (i.toNat * 3)))), (43, .agg #[.string ((files.getD i.toNat z93).f0), .slice A120 ((files.getD i.toNat z93).f1.length) c121, J ((files.getD i.toNat z93).f2)]), (7, .pointer (some ⟨g128, 0, none⟩)), (6, J i), (45, .pointer (some ⟨gd, 0, none⟩)), (46, .pointer (some ⟨g128, 0, none⟩)), (47, .string ((files.getD i.toNat z93).f0)), (48, .tuple #[.slice A148 (((files.getD i.toNat z93).f1).length) c149, J 0]), (44, .tuple #[.slice A148 (((files.getD i.toNat z93).f1).length) c149, J 0]), (49, .slice A148 (((files.getD i.toNat z93).f1).length) c149), (50, J 0), (8, .slice A148 (((files.getD i.toNat z93).f1).length) c149), (9, J 0), (51, .slice A13 ((namesD d).length) c14), (52, J i), (53, .pointer (some (ad178.add (i.toNat * 1)))), (54, .string ((files.getD i.toNat z93).f0)), (55, .pointer (some ⟨g128, 0, none⟩)), (56, .string ((files.getD i.toNat z93).f0)), (57, .bool false), (58, .pointer (some ⟨g2, 3, none⟩)), (59, .bool false), (62, J 0), (63, .bool false), (64, .bool false), (65, .slice A148 (((files.getD i.toNat z93).f1).length) c149), (66, .pointer (some ⟨g128, 1, none⟩)), (67, .slice A120 ((files.getD i.toNat z93).f1.length) c121), (68, .bool true), (69, .bool false), (70, .bool false), (71, .slice A148 (((files.getD i.toNat z93).f1).length) c149), (72, J ((((files.getD i.toNat z93).f1).length) : Int))] ∧ Own w0 w_ [Chunk.row (Kd.int .u8) 5 w0.heap.size S150 (.slice A148 (((files.getD i.toNat z93).f1).length) c149) X248, Bk g128 [.string ((files.getD i.toNat z93).f0), .slice A120 ((files.getD i.toNat z93).f1.length) c121, J ((files.getD i.toNat z93).f2)] 93, Chunk.view Kd.string S15 A13 ((namesD d).length) c14 (namesD d), Bk g2 [.slice Am files.length cm, J d.most, J d.fuse, .bool d.down] 50, R, Chunk.disk w0.heap.size gd S d, Chunk.view k93 Sm Am files.length cm files] ∧ (0 ≤ p249 ∧ p249 ≤ (((files.getD i.toNat z93).f1).length : Int)) ∧ (X248.length = ((files.getD i.toNat z93).f1).length) ∧ m_ = (((files.getD i.toNat z93).f1).length - p249.toNat)) ((((files.getD i.toNat z93).f1).length - (0 : Int).toNat)) ?_ ?_
   ·
    refine ⟨0, (files.getD i.toNat z93).f1, (H243.pick (t := 73) rfl (H243.pick (t := 39) rfl (H243.pick (t := 0) rfl (H243.pick (t := 3) rfl (H243.pick (t := 5) rfl (H243.pick (t := 37) rfl (H243.pick (t := 38) rfl (H243.pick (t := 40) rfl (H243.pick (t := 41) rfl (H243.pick (t := 42) rfl (H243.pick (t := 43) rfl (H243.pick (t := 7) rfl (H243.pick (t := 6) rfl (H243.pick (t := 45) rfl (H243.pick (t := 46) rfl (H243.pick (t := 47) rfl (H243.pick (t := 48) rfl (H243.pick (t := 44) rfl (H243.pick (t := 49) rfl (H243.pick (t := 50) rfl (H243.pick (t := 8) rfl (H243.pick (t := 9) rfl (H243.pick (t := 51) rfl (H243.pick (t := 52) rfl (H243.pick (t := 53) rfl (H243.pick (t := 54) rfl (H243.pick (t := 55) rfl (H243.pick (t := 56) rfl (H243.pick (t := 57) rfl (H243.pick (t := 58) rfl (H243.pick (t := 59) rfl (H243.pick (t := 62) rfl (H243.pick (t := 63) rfl (H243.pick (t := 64) rfl (H243.pick (t := 65) rfl (H243.pick (t := 66) rfl (H243.pick (t := 67) rfl (H243.pick (t := 68) rfl (H243.pick (t := 69) rfl (H243.pick (t := 70) rfl (H243.pick (t := 71) rfl (H243.pick (t := 72) rfl H243.nil)))))))))))))))))))))))))))))))))))))))))), O247.sel [0, 1, 2, 3, 4, 5, 6] (by decide), ?_, ?_, rfl⟩
    ·
     omega
    ·
     rfl
   ·
    rintro m253 _ w255 ⟨p249, X248, H256, O257, hp251, hX250, hm258⟩
    refine gw_seq fun K259 hK259 => ?_
    refine wp_region_lit ?_
    refine V H256 (op_lss rfl (H256.ev rfl) (H256.ev rfl)) ?_
    intro _ H261; clear H256
    refine wpList_nil ?_
    refine gw_nx (hK259 _ _ ?_)
    refine gw_seq fun K262 hK262 => ?_
    refine gw_cond H261 rfl (fun hb263 => ?_) (fun hb263 => ?_)
    ·
     have H264 := H261.subst_ (d := 74) (b := true) rfl hb263
     clear H261
     (try simp only [decide_eq_true_eq] at hb263)
     refine wp_skip ?_
     refine gw_nx (hK262 _ _ ?_)
     refine gw_seq fun K265 hK265 => ?_
     refine wp_block ?_
     refine gw_seq fun K266 hK266 => ?_
     refine wp_region_lit ?_
     refine V H264 (op_move rfl (H264.ev rfl)) ?_
     intro _ H268; clear H264
     refine V H268 (op_assign rfl (H268.ev rfl)) ?_
     intro _ H270; clear H268
     refine wpList_nil ?_
     refine gw_nx (hK266 _ _ ?_)
     refine wp_region_lit ?_
     refine V H270 (op_move rfl (H270.ev rfl)) ?_
     intro _ H272; clear H270
     refine V H272 (op_move rfl (H272.ev rfl)) ?_
     intro _ H274; clear H272
     obtain ⟨ad275, hA276⟩ := row_head (O257.get 0 rfl) p249 (by omega) (by omega)
     subst hA276
     refine V H274 (op_index Try.underlying28 gwsiz5 rfl (H274.ev rfl) (H274.ev rfl) rfl (⟨by omega, by omega⟩)) ?_
     intro _ H279; clear H274
     refine gw_row 0 H279 O257 rfl (want_none rfl) rfl gwsiz5 (by omega) (by omega) rfl (H279.ev rfl) (ev_c _ _) ?_
     intro _ w282 H281 O283; clear H279 O257
     have O284 : Own w0 w282 [Chunk.row (Kd.int .u8) 5 w0.heap.size S150 (.slice (some ad275) (((files.getD i.toNat z93).f1).length) c149) (X248.set p249.toNat 99), Bk g128 [.string ((files.getD i.toNat z93).f0), .slice A120 ((files.getD i.toNat z93).f1.length) c121, J ((files.getD i.toNat z93).f2)] 93, Chunk.view Kd.string S15 A13 ((namesD d).length) c14 (namesD d), Bk g2 [.slice Am files.length cm, J d.most, J d.fuse, .bool d.down] 50, R, Chunk.disk w0.heap.size gd S d, Chunk.view k93 Sm Am files.length cm files] := O283
     clear O283
     refine wpList_nil ?_
     refine gw_blk ?_
     refine gw_nx (hK265 _ _ ?_)
     refine wp_region_lit ?_
     refine V H281 (op_add rfl (H281.ev rfl) (ev_c _ _) (by omega)) ?_
     intro _ H286; clear H281
     refine V H286 (op_move rfl (H286.ev rfl)) ?_
     intro _ H288; clear H286
     refine wpList_nil ?_
     refine gw_nx ⟨_, ?_, p249 + 1, (X248.set p249.toNat 99), (H288.pick (t := 73) rfl (H288.pick (t := 39) rfl (H288.pick (t := 0) rfl (H288.pick (t := 3) rfl (H288.pick (t := 5) rfl (H288.pick (t := 37) rfl (H288.pick (t := 38) rfl (H288.pick (t := 40) rfl (H288.pick (t := 41) rfl (H288.pick (t := 42) rfl (H288.pick (t := 43) rfl (H288.pick (t := 7) rfl (H288.pick (t := 6) rfl (H288.pick (t := 45) rfl (H288.pick (t := 46) rfl (H288.pick (t := 47) rfl (H288.pick (t := 48) rfl (H288.pick (t := 44) rfl (H288.pick (t := 49) rfl (H288.pick (t := 50) rfl (H288.pick (t := 8) rfl (H288.pick (t := 9) rfl (H288.pick (t := 51) rfl (H288.pick (t := 52) rfl (H288.pick (t := 53) rfl (H288.pick (t := 54) rfl (H288.pick (t := 55) rfl (H288.pick (t := 56) rfl (H288.pick (t := 57) rfl (H288.pick (t := 58) rfl (H288.pick (t := 59) rfl (H288.pick (t := 62) rfl (H288.pick (t := 63) rfl (H288.pick (t := 64) rfl (H288.pick (t := 65) rfl (H288.pick (t := 66) rfl (H288.pick (t := 67) rfl (H288.pick (t := 68) rfl (H288.pick (t := 69) rfl (H288.pick (t := 70) rfl (H288.pick (t := 71) rfl (H288.pick (t := 72) rfl H288.nil)))))))))))))))))))))))))))))))))))))))))), O284.sel [0, 1, 2, 3, 4, 5, 6] (by decide), ?_, ?_, rfl⟩
     ·
      rw [hm258]; omega
     ·
      omega
     ·
      rw [List.length_set]; exact hX250
    ·
     have H289 := H261.subst_ (d := 74) (b := false) rfl hb263
     clear H261
     (try simp only [decide_eq_false_iff_not, Int.not_lt] at hb263)
     refine wp_exit ?_
     refine gw_thx ?_
     refine gw_thx ?_
     refine gw_in ?_
     refine gw_blk ?_
     refine gw_nx (hK108 _ _ ?_)
     refine wp_region_lit ?_
     refine V H289 (op_add rfl (H289.ev rfl) (ev_c _ _) (by omega)) ?_
     intro _ H291; clear H289
     refine V H291 (op_move rfl (H291.ev rfl)) ?_
     intro _ H293; clear H291
     refine wpList_nil ?_
     refine gw_nx ⟨_, ?_, i + 1, (H293.pick (t := 39) rfl (H293.pick (t := 0) rfl (H293.pick (t := 3) rfl (H293.pick (t := 5) rfl (H293.pick (t := 37) rfl (H293.pick (t := 38) rfl H293.nil)))))), O257.sel [2, 3, 4, 5, 6] (by decide), ?_, rfl⟩
     ·
      rw [hm101]; omega
     ·
      omega
  ·
   have H294 := H104.subst_ (d := 40) (b := false) rfl hb106
   clear H104
   (try simp only [decide_eq_false_iff_not, Int.not_lt] at hb106)
   refine wp_exit ?_
   refine gw_thx ?_
   refine gw_thx ?_
   refine gw_in ?_
   refine gw_nx (hK85 _ _ ?_)
   refine gw_seq fun K295 hK295 => ?_
   refine wp_region_lit ?_
   refine V H294 (op_assign rfl (ev_c _ _)) ?_
   intro _ H297; clear H294
   refine wpList_nil ?_
   refine gw_nx (hK295 _ _ ?_)
   refine wp_ret ?_
   refine gw_ret1 H297 rfl rfl ?_
   exact ⟨rfl, O100.sel [2, 3, 4] (by decide)⟩
end GVfsP0_
export GVfsP0_ (same_down same_up)
end Go.Proofs.Ytkdahjnmldeklaa.PA
end
section
namespace Go.Proofs.Ytkdahjnmldeklaa.PA
open Go.RowKit Go.Proofs.YtkdahjnmldeklaaW.PrintWords Go.Proofs.YtkdahjnmldeklaaW.PrintLast Go.Proofs.YtkdahjnmldeklaaW.PrintMore
set_option linter.unusedVariables false
set_option linter.unusedSimpArgs false
structure S45 where
  f0 : Int
  f1 : ByteArray
  f2 : ByteArray
  f3 : Int
  f4 : (List Int)
  f5 : (List Int)
def z45 : S45 := ⟨(0 : Int), (⟨#[]⟩ : ByteArray), (⟨#[]⟩ : ByteArray), (0 : Int), ([] : List Int), ([] : List Int)⟩
def k45 : Kd S45 := Kd.iso (Kd.pair (Kd.int .i64) (Kd.pair Kd.string (Kd.pair Kd.string (Kd.pair (Kd.int .i64) (Kd.pair (Kd.slice 5 (Kd.int .u8)) (Kd.slice 3 (Kd.int .i64))))))) (fun x : S45 => (x.f0, x.f1, x.f2, x.f3, x.f4, x.f5))
theorem k45_open {w : World} {x : S45} {cs : List Value} (h : k45.K w x cs) : ∃ A4 c4 A5 c5, cs = [.int .i64 x.f0, .string x.f1, .string x.f2, .int .i64 x.f3, .slice A4 x.f4.length c4, .slice A5 x.f5.length c5] ∧ x.f4.length ≤ c4 ∧ (Kd.int .u8).C w A4 x.f4.length x.f4 ∧ x.f5.length ≤ c5 ∧ (Kd.int .i64).C w A5 x.f5.length x.f5 := by
  obtain ⟨_, _, rfl, rfl, ⟨_, _, rfl, rfl, ⟨_, _, rfl, rfl, ⟨_, _, rfl, rfl, ⟨_, _, rfl, ⟨A4, c4, rfl, l4, g4⟩, ⟨A5, c5, rfl, l5, g5⟩⟩⟩⟩⟩⟩ := h
  exact ⟨A4, c4, A5, c5, rfl, l4, g4, l5, g5⟩
end Go.Proofs.Ytkdahjnmldeklaa.PA
end
section
namespace Go.Proofs.Ytkdahjnmldeklaa.PA
open Go.RowKit Go.Proofs.YtkdahjnmldeklaaW.PrintWords Go.Proofs.YtkdahjnmldeklaaW.PrintLast Go.Proofs.YtkdahjnmldeklaaW.PrintMore
set_option linter.unusedVariables false
set_option linter.unusedSimpArgs false
namespace GVfsD_
theorem gwagg28 : ∀ w, (isAgg 28).run Try.prog w = .ok false w := fun _ => by kernel_rfl
theorem gwagg3 : ∀ w, (isAgg 3).run Try.prog w = .ok false w := fun _ => by kernel_rfl
theorem gwagg9 : ∀ w, (isAgg 9).run Try.prog w = .ok false w := fun _ => by kernel_rfl
theorem gwfld45_0 (g off : Nat) : ∀ w, (Instr.fieldAt 45 (.pointer (some ⟨g, off, none⟩)) 0).run Try.prog w = .ok (.pointer (some ⟨g, off + 0, none⟩)) w := fun _ => by kernel_rfl
theorem gwfld45_1 (g off : Nat) : ∀ w, (Instr.fieldAt 45 (.pointer (some ⟨g, off, none⟩)) 1).run Try.prog w = .ok (.pointer (some ⟨g, off + 1, none⟩)) w := fun _ => by kernel_rfl
theorem gwfld45_2 (g off : Nat) : ∀ w, (Instr.fieldAt 45 (.pointer (some ⟨g, off, none⟩)) 2).run Try.prog w = .ok (.pointer (some ⟨g, off + 2, none⟩)) w := fun _ => by kernel_rfl
theorem gwfld45_3 (g off : Nat) : ∀ w, (Instr.fieldAt 45 (.pointer (some ⟨g, off, none⟩)) 3).run Try.prog w = .ok (.pointer (some ⟨g, off + 3, none⟩)) w := fun _ => by kernel_rfl
theorem gwfld45_4 (g off : Nat) : ∀ w, (Instr.fieldAt 45 (.pointer (some ⟨g, off, none⟩)) 4).run Try.prog w = .ok (.pointer (some ⟨g, off + 4, none⟩)) w := fun _ => by kernel_rfl
set_option maxHeartbeats 4000000 in
set_option maxRecDepth 100000 in
theorem does_calls (w0 w : World) (R : Chunk) (gd : Nat) (S : Nat → Prop) (d : PD) (kd : Int) (nm dest : ByteArray) (n : Int) (Ay : Option Addr) (cy : Nat) (y : List Int) (hy : ∀ w1, Own w0 w1 [R] → Kd.C (Kd.int .u8) w1 Ay y.length y) (hcy : y.length ≤ cy) (A5 : Option Addr) (n5 c5 : Nat) (hw : wfD d) (hn : nm.size ≤ 9223372036854775807) (hdest : dest.size ≤ 9223372036854775807) (hlen : d.fs.length ≤ 1000000) (hroom : d.used + y.length ≤ 140737488355327) (HO : Own w0 w [R, Chunk.disk w0.heap.size gd S d]) :
    Calls Try.prog 25 #[.pointer (some ⟨gd, 0, none⟩), .agg #[.int .i64 kd, .string nm, .string dest, .int .i64 n, .slice Ay y.length cy, .slice A5 n5 c5]] w fun e w' => e = .returned (.int .i64 (doesD kd nm dest n y d).2) ∧ ∃ S', Own w0 w' [R, Chunk.disk w0.heap.size gd S' (doesD kd nm dest n y d).1] := by
 refine gw_startO (N := 47) (vs := [.pointer (some ⟨gd, 0, none⟩), .agg #[J kd, .string nm, .string dest, J n, .slice Ay y.length cy, .slice A5 n5 c5]]) Try.func25 rfl rfl (by simp) fun a HF => ?_
 refine gw_seq fun K1 hK1 => ?_
 refine wp_region_lit ?_
 refine gw_new HF HO (want_none rfl) rfl (by decide) (op_box rfl (HF.ev rfl)) ?_
 intro g2 _ w4 H5 O6; clear HF HO
 have O7 : Own w0 w4 [Bk g2 [J kd, .string nm, .string dest, J n, .slice Ay y.length cy, .slice A5 n5 c5] 45, R, Chunk.disk w0.heap.size gd S d] := O6
 clear O6
 refine V H5 (op_assign rfl (ev_c _ _)) ?_
 intro _ H9; clear H5
 refine wpList_nil ?_
 refine gw_nx (hK1 _ _ ?_)
 refine gw_seq fun K10 hK10 => ?_
 refine gw_seq fun K11 hK11 => ?_
 refine wp_region_lit ?_
 refine V H9 (op_field (gwfld45_0 _ _) rfl (H9.ev rfl)) ?_
 intro _ H13; clear H9
 refine V H13 (op_load1 gwagg3 rfl (H13.ev rfl) (blk_at (O7.get 0 rfl) rfl)) ?_
 intro _ H15; clear H13
 refine wpList_nil ?_
 refine gw_nx (hK11 _ _ ?_)
 refine wp_block ?_
 refine gw_seq fun K16 hK16 => ?_
 refine wp_region_lit ?_
 refine V H15 (op_eqi rfl (H15.ev rfl) (ev_c _ _)) ?_
 intro _ H18; clear H15
 refine V H18 (op_assign rfl (H18.ev rfl)) ?_
 intro _ H20; clear H18
 refine wpList_nil ?_
 refine gw_nx (hK16 _ _ ?_)
 refine gw_cond H20 rfl (fun hb21 => ?_) (fun hb21 => ?_)
 ·
  have H22 := H20.subst_ (d := 7) (b := true) rfl hb21
  clear H20
  (try simp only [decide_eq_true_eq] at hb21)
  have hk1 := hb21
  refine gw_seq fun K23 hK23 => ?_
  refine wp_region_lit ?_
  refine V H22 (op_move rfl (H22.ev rfl)) ?_
  intro _ H25; clear H22
  refine V H25 (op_field (gwfld45_1 _ _) rfl (H25.ev rfl)) ?_
  intro _ H27; clear H25
  refine V H27 (op_load1 gwagg9 rfl (H27.ev rfl) (blk_at (O7.get 0 rfl) rfl)) ?_
  intro _ H29; clear H27
  have O38 : Own w0 _ [(Chunk.all [Bk g2 [J kd, .string nm, .string dest, J n, .slice Ay y.length cy, .slice A5 n5 c5] 45, R]), Chunk.disk w0.heap.size gd S d] := Own.bundle (A := [Bk g2 [J kd, .string nm, .string dest, J n, .slice Ay y.length cy, .slice A5 n5 c5] 45, R]) (L := [Chunk.disk w0.heap.size gd S d]) (O7.sel [0, 1, 2] (by decide))
  refine gw_call H29 (want_none rfl) rfl (by decide) (op_callL Try.func13 (by kernel_rfl) rfl rfl (ar_cons (H29.ev rfl) (ar_cons (H29.ev rfl) ar_nil))) (create_calls w0 _ (Chunk.all [Bk g2 [J kd, .string nm, .string dest, J n, .slice Ay y.length cy, .slice A5 n5 c5] 45, R]) gd S d nm hw hn hlen (by exact O38)) ?_
  rintro e32 w33 ⟨rfl, S30, hb34⟩
  refine ⟨_, rfl, fun _ H36 => ?_⟩
  have O37 : Own w0 w33 [Bk g2 [J kd, .string nm, .string dest, J n, .slice Ay y.length cy, .slice A5 n5 c5] 45, R, Chunk.disk w0.heap.size gd S30 ((createD nm d).1)] := Own.unbundle (A := [Bk g2 [J kd, .string nm, .string dest, J n, .slice Ay y.length cy, .slice A5 n5 c5] 45, R]) (L := [Chunk.disk w0.heap.size gd S30 ((createD nm d).1)]) (hb34.sel [0, 1] (by decide))
  clear O38
  clear H29 O7 hb34
  have O40 : Own w0 w33 [Bk g2 [J kd, .string nm, .string dest, J n, .slice Ay y.length cy, .slice A5 n5 c5] 45, R, Chunk.disk w0.heap.size gd S30 ((createD nm d).1)] := O37
  clear O37
  have hwf31 : wfD ((createD nm d).1) := wf_create hw
  refine V H36 (op_assign rfl (H36.ev rfl)) ?_
  intro _ H42; clear H36
  refine wpList_nil ?_
  refine gw_nx (hK23 _ _ ?_)
  refine wp_ret ?_
  refine gw_blr ?_
  refine gw_thr ?_
  refine gw_ret1 H42 rfl rfl ?_
  rw [does1 hk1]
  exact ⟨rfl, _, O40.sel [1, 2] (by decide)⟩
 ·
  have H43 := H20.subst_ (d := 7) (b := false) rfl hb21
  clear H20
  (try simp only [decide_eq_false_iff_not] at hb21)
  have hk1 := hb21
  refine gw_seq fun K44 hK44 => ?_
  refine wp_region_lit ?_
  refine V H43 (op_eqi rfl (H43.ev rfl) (ev_c _ _)) ?_
  intro _ H46; clear H43
  refine V H46 (op_assign rfl (H46.ev rfl)) ?_
  intro _ H48; clear H46
  refine wpList_nil ?_
  refine gw_nx (hK44 _ _ ?_)
  refine gw_cond H48 rfl (fun hb49 => ?_) (fun hb49 => ?_)
  ·
   have H50 := H48.subst_ (d := 13) (b := true) rfl hb49
   clear H48
   (try simp only [decide_eq_true_eq] at hb49)
   have hk2 := hb49
   refine gw_seq fun K51 hK51 => ?_
   refine wp_region_lit ?_
   refine V H50 (op_move rfl (H50.ev rfl)) ?_
   intro _ H53; clear H50
   refine V H53 (op_field (gwfld45_1 _ _) rfl (H53.ev rfl)) ?_
   intro _ H55; clear H53
   refine V H55 (op_load1 gwagg9 rfl (H55.ev rfl) (blk_at (O7.get 0 rfl) rfl)) ?_
   intro _ H57; clear H55
   refine V H57 (op_field (gwfld45_4 _ _) rfl (H57.ev rfl)) ?_
   intro _ H59; clear H57
   refine V H59 (op_load1 gwagg28 rfl (H59.ev rfl) (blk_at (O7.get 0 rfl) rfl)) ?_
   intro _ H61; clear H59
   have O70 : Own w0 _ [(Chunk.all [Bk g2 [J kd, .string nm, .string dest, J n, .slice Ay y.length cy, .slice A5 n5 c5] 45, R]), Chunk.disk w0.heap.size gd S d] := Own.bundle (A := [Bk g2 [J kd, .string nm, .string dest, J n, .slice Ay y.length cy, .slice A5 n5 c5] 45, R]) (L := [Chunk.disk w0.heap.size gd S d]) (O7.sel [0, 1, 2] (by decide))
   refine gw_call H61 (want_none rfl) rfl (by decide) (op_callL Try.func15 (by kernel_rfl) rfl rfl (ar_cons (H61.ev rfl) (ar_cons (H61.ev rfl) (ar_cons (H61.ev rfl) ar_nil)))) (append_calls w0 _ (Chunk.all [Bk g2 [J kd, .string nm, .string dest, J n, .slice Ay y.length cy, .slice A5 n5 c5] 45, R]) gd S d nm Ay cy y (fun w_ h_ => (hy _ ((Own.unbundle (A := [Bk g2 [J kd, .string nm, .string dest, J n, .slice Ay y.length cy, .slice A5 n5 c5] 45, R]) (L := []) h_).sel [1] (by decide)))) hcy hw hn hroom (by exact O70)) ?_
   rintro e64 w65 ⟨rfl, S62, hb66⟩
   refine ⟨_, rfl, fun _ H68 => ?_⟩
   have O69 : Own w0 w65 [Bk g2 [J kd, .string nm, .string dest, J n, .slice Ay y.length cy, .slice A5 n5 c5] 45, R, Chunk.disk w0.heap.size gd S62 ((appendD nm y d).1)] := Own.unbundle (A := [Bk g2 [J kd, .string nm, .string dest, J n, .slice Ay y.length cy, .slice A5 n5 c5] 45, R]) (L := [Chunk.disk w0.heap.size gd S62 ((appendD nm y d).1)]) (hb66.sel [0, 1] (by decide))
   clear O70
   clear H61 O7 hb66
   have O72 : Own w0 w65 [Bk g2 [J kd, .string nm, .string dest, J n, .slice Ay y.length cy, .slice A5 n5 c5] 45, R, Chunk.disk w0.heap.size gd S62 ((appendD nm y d).1)] := O69
   clear O69
   have hwf63 : wfD ((appendD nm y d).1) := wf_append hw
   refine V H68 (op_assign rfl (H68.ev rfl)) ?_
   intro _ H74; clear H68
   refine wpList_nil ?_
   refine gw_nx (hK51 _ _ ?_)
   refine wp_ret ?_
   refine gw_blr ?_
   refine gw_thr ?_
   refine gw_ret1 H74 rfl rfl ?_
   rw [does2 hk1 hk2]
   exact ⟨rfl, _, O72.sel [1, 2] (by decide)⟩
  ·
   have H75 := H48.subst_ (d := 13) (b := false) rfl hb49
   clear H48
   (try simp only [decide_eq_false_iff_not] at hb49)
   have hk2 := hb49
   refine gw_seq fun K76 hK76 => ?_
   refine wp_region_lit ?_
   refine V H75 (op_eqi rfl (H75.ev rfl) (ev_c _ _)) ?_
   intro _ H78; clear H75
   refine V H78 (op_assign rfl (H78.ev rfl)) ?_
   intro _ H80; clear H78
   refine wpList_nil ?_
   refine gw_nx (hK76 _ _ ?_)
   refine gw_cond H80 rfl (fun hb81 => ?_) (fun hb81 => ?_)
   ·
    have H82 := H80.subst_ (d := 21) (b := true) rfl hb81
    clear H80
    (try simp only [decide_eq_true_eq] at hb81)
    have hk3 := hb81
    refine gw_seq fun K83 hK83 => ?_
    refine wp_region_lit ?_
    refine V H82 (op_move rfl (H82.ev rfl)) ?_
    intro _ H85; clear H82
    refine V H85 (op_field (gwfld45_1 _ _) rfl (H85.ev rfl)) ?_
    intro _ H87; clear H85
    refine V H87 (op_load1 gwagg9 rfl (H87.ev rfl) (blk_at (O7.get 0 rfl) rfl)) ?_
    intro _ H89; clear H87
    have O98 : Own w0 _ [(Chunk.all [Bk g2 [J kd, .string nm, .string dest, J n, .slice Ay y.length cy, .slice A5 n5 c5] 45, R]), Chunk.disk w0.heap.size gd S d] := Own.bundle (A := [Bk g2 [J kd, .string nm, .string dest, J n, .slice Ay y.length cy, .slice A5 n5 c5] 45, R]) (L := [Chunk.disk w0.heap.size gd S d]) (O7.sel [0, 1, 2] (by decide))
    refine gw_call H89 (want_none rfl) rfl (by decide) (op_callL Try.func16 (by kernel_rfl) rfl rfl (ar_cons (H89.ev rfl) (ar_cons (H89.ev rfl) ar_nil))) (sync_calls w0 _ (Chunk.all [Bk g2 [J kd, .string nm, .string dest, J n, .slice Ay y.length cy, .slice A5 n5 c5] 45, R]) gd S d nm hw hn (by exact O98)) ?_
    rintro e92 w93 ⟨rfl, S90, hb94⟩
    refine ⟨_, rfl, fun _ H96 => ?_⟩
    have O97 : Own w0 w93 [Bk g2 [J kd, .string nm, .string dest, J n, .slice Ay y.length cy, .slice A5 n5 c5] 45, R, Chunk.disk w0.heap.size gd S90 ((syncD nm d).1)] := Own.unbundle (A := [Bk g2 [J kd, .string nm, .string dest, J n, .slice Ay y.length cy, .slice A5 n5 c5] 45, R]) (L := [Chunk.disk w0.heap.size gd S90 ((syncD nm d).1)]) (hb94.sel [0, 1] (by decide))
    clear O98
    clear H89 O7 hb94
    have O100 : Own w0 w93 [Bk g2 [J kd, .string nm, .string dest, J n, .slice Ay y.length cy, .slice A5 n5 c5] 45, R, Chunk.disk w0.heap.size gd S90 ((syncD nm d).1)] := O97
    clear O97
    have hwf91 : wfD ((syncD nm d).1) := wf_sync hw
    refine V H96 (op_assign rfl (H96.ev rfl)) ?_
    intro _ H102; clear H96
    refine wpList_nil ?_
    refine gw_nx (hK83 _ _ ?_)
    refine wp_ret ?_
    refine gw_blr ?_
    refine gw_thr ?_
    refine gw_ret1 H102 rfl rfl ?_
    rw [does3 hk1 hk2 hk3]
    exact ⟨rfl, _, O100.sel [1, 2] (by decide)⟩
   ·
    have H103 := H80.subst_ (d := 21) (b := false) rfl hb81
    clear H80
    (try simp only [decide_eq_false_iff_not] at hb81)
    have hk3 := hb81
    refine gw_seq fun K104 hK104 => ?_
    refine wp_region_lit ?_
    refine V H103 (op_eqi rfl (H103.ev rfl) (ev_c _ _)) ?_
    intro _ H106; clear H103
    refine V H106 (op_assign rfl (H106.ev rfl)) ?_
    intro _ H108; clear H106
    refine wpList_nil ?_
    refine gw_nx (hK104 _ _ ?_)
    refine gw_cond H108 rfl (fun hb109 => ?_) (fun hb109 => ?_)
    ·
     have H110 := H108.subst_ (d := 27) (b := true) rfl hb109
     clear H108
     (try simp only [decide_eq_true_eq] at hb109)
     have hk4 := hb109
     refine gw_seq fun K111 hK111 => ?_
     refine wp_region_lit ?_
     refine V H110 (op_move rfl (H110.ev rfl)) ?_
     intro _ H113; clear H110
     refine V H113 (op_field (gwfld45_1 _ _) rfl (H113.ev rfl)) ?_
     intro _ H115; clear H113
     refine V H115 (op_load1 gwagg9 rfl (H115.ev rfl) (blk_at (O7.get 0 rfl) rfl)) ?_
     intro _ H117; clear H115
     refine V H117 (op_field (gwfld45_2 _ _) rfl (H117.ev rfl)) ?_
     intro _ H119; clear H117
     refine V H119 (op_load1 gwagg9 rfl (H119.ev rfl) (blk_at (O7.get 0 rfl) rfl)) ?_
     intro _ H121; clear H119
     have O130 : Own w0 _ [(Chunk.all [Bk g2 [J kd, .string nm, .string dest, J n, .slice Ay y.length cy, .slice A5 n5 c5] 45, R]), Chunk.disk w0.heap.size gd S d] := Own.bundle (A := [Bk g2 [J kd, .string nm, .string dest, J n, .slice Ay y.length cy, .slice A5 n5 c5] 45, R]) (L := [Chunk.disk w0.heap.size gd S d]) (O7.sel [0, 1, 2] (by decide))
     refine gw_call H121 (want_none rfl) rfl (by decide) (op_callL Try.func23 (by kernel_rfl) rfl rfl (ar_cons (H121.ev rfl) (ar_cons (H121.ev rfl) (ar_cons (H121.ev rfl) ar_nil)))) (rename_calls w0 _ (Chunk.all [Bk g2 [J kd, .string nm, .string dest, J n, .slice Ay y.length cy, .slice A5 n5 c5] 45, R]) gd S d nm dest hw hn hdest hlen (by exact O130)) ?_
     rintro e124 w125 ⟨rfl, S122, hb126⟩
     refine ⟨_, rfl, fun _ H128 => ?_⟩
     have O129 : Own w0 w125 [Bk g2 [J kd, .string nm, .string dest, J n, .slice Ay y.length cy, .slice A5 n5 c5] 45, R, Chunk.disk w0.heap.size gd S122 ((renameD nm dest d).1)] := Own.unbundle (A := [Bk g2 [J kd, .string nm, .string dest, J n, .slice Ay y.length cy, .slice A5 n5 c5] 45, R]) (L := [Chunk.disk w0.heap.size gd S122 ((renameD nm dest d).1)]) (hb126.sel [0, 1] (by decide))
     clear O130
     clear H121 O7 hb126
     have O132 : Own w0 w125 [Bk g2 [J kd, .string nm, .string dest, J n, .slice Ay y.length cy, .slice A5 n5 c5] 45, R, Chunk.disk w0.heap.size gd S122 ((renameD nm dest d).1)] := O129
     clear O129
     have hwf123 : wfD ((renameD nm dest d).1) := wf_rename hw
     refine V H128 (op_assign rfl (H128.ev rfl)) ?_
     intro _ H134; clear H128
     refine wpList_nil ?_
     refine gw_nx (hK111 _ _ ?_)
     refine wp_ret ?_
     refine gw_blr ?_
     refine gw_thr ?_
     refine gw_ret1 H134 rfl rfl ?_
     rw [does4 hk1 hk2 hk3 hk4]
     exact ⟨rfl, _, O132.sel [1, 2] (by decide)⟩
    ·
     have H135 := H108.subst_ (d := 27) (b := false) rfl hb109
     clear H108
     (try simp only [decide_eq_false_iff_not] at hb109)
     have hk4 := hb109
     refine gw_seq fun K136 hK136 => ?_
     refine wp_region_lit ?_
     refine V H135 (op_eqi rfl (H135.ev rfl) (ev_c _ _)) ?_
     intro _ H138; clear H135
     refine V H138 (op_assign rfl (H138.ev rfl)) ?_
     intro _ H140; clear H138
     refine wpList_nil ?_
     refine gw_nx (hK136 _ _ ?_)
     refine gw_cond H140 rfl (fun hb141 => ?_) (fun hb141 => ?_)
     ·
      have H142 := H140.subst_ (d := 35) (b := true) rfl hb141
      clear H140
      (try simp only [decide_eq_true_eq] at hb141)
      have hk5 := hb141
      refine gw_seq fun K143 hK143 => ?_
      refine wp_region_lit ?_
      refine V H142 (op_move rfl (H142.ev rfl)) ?_
      intro _ H145; clear H142
      refine V H145 (op_field (gwfld45_1 _ _) rfl (H145.ev rfl)) ?_
      intro _ H147; clear H145
      refine V H147 (op_load1 gwagg9 rfl (H147.ev rfl) (blk_at (O7.get 0 rfl) rfl)) ?_
      intro _ H149; clear H147
      refine V H149 (op_field (gwfld45_3 _ _) rfl (H149.ev rfl)) ?_
      intro _ H151; clear H149
      refine V H151 (op_load1 gwagg3 rfl (H151.ev rfl) (blk_at (O7.get 0 rfl) rfl)) ?_
      intro _ H153; clear H151
      have O162 : Own w0 _ [(Chunk.all [Bk g2 [J kd, .string nm, .string dest, J n, .slice Ay y.length cy, .slice A5 n5 c5] 45, R]), Chunk.disk w0.heap.size gd S d] := Own.bundle (A := [Bk g2 [J kd, .string nm, .string dest, J n, .slice Ay y.length cy, .slice A5 n5 c5] 45, R]) (L := [Chunk.disk w0.heap.size gd S d]) (O7.sel [0, 1, 2] (by decide))
      refine gw_call H153 (want_none rfl) rfl (by decide) (op_callL Try.func51 (by kernel_rfl) rfl rfl (ar_cons (H153.ev rfl) (ar_cons (H153.ev rfl) (ar_cons (H153.ev rfl) ar_nil)))) (cut_calls w0 _ (Chunk.all [Bk g2 [J kd, .string nm, .string dest, J n, .slice Ay y.length cy, .slice A5 n5 c5] 45, R]) gd S d nm n hw hn (by exact O162)) ?_
      rintro e156 w157 ⟨rfl, S154, hb158⟩
      refine ⟨_, rfl, fun _ H160 => ?_⟩
      have O161 : Own w0 w157 [Bk g2 [J kd, .string nm, .string dest, J n, .slice Ay y.length cy, .slice A5 n5 c5] 45, R, Chunk.disk w0.heap.size gd S154 ((cutD nm n d).1)] := Own.unbundle (A := [Bk g2 [J kd, .string nm, .string dest, J n, .slice Ay y.length cy, .slice A5 n5 c5] 45, R]) (L := [Chunk.disk w0.heap.size gd S154 ((cutD nm n d).1)]) (hb158.sel [0, 1] (by decide))
      clear O162
      clear H153 O7 hb158
      have O164 : Own w0 w157 [Bk g2 [J kd, .string nm, .string dest, J n, .slice Ay y.length cy, .slice A5 n5 c5] 45, R, Chunk.disk w0.heap.size gd S154 ((cutD nm n d).1)] := O161
      clear O161
      have hwf155 : wfD ((cutD nm n d).1) := wf_cut hw
      refine V H160 (op_assign rfl (H160.ev rfl)) ?_
      intro _ H166; clear H160
      refine wpList_nil ?_
      refine gw_nx (hK143 _ _ ?_)
      refine wp_ret ?_
      refine gw_blr ?_
      refine gw_thr ?_
      refine gw_ret1 H166 rfl rfl ?_
      rw [does5 hk1 hk2 hk3 hk4 hk5]
      exact ⟨rfl, _, O164.sel [1, 2] (by decide)⟩
     ·
      have H167 := H140.subst_ (d := 35) (b := false) rfl hb141
      clear H140
      (try simp only [decide_eq_false_iff_not] at hb141)
      have hk5 := hb141
      refine wp_skip ?_
      refine gw_blk ?_
      refine gw_nx (hK10 _ _ ?_)
      refine gw_seq fun K168 hK168 => ?_
      refine wp_region_lit ?_
      refine V H167 (op_move rfl (H167.ev rfl)) ?_
      intro _ H170; clear H167
      refine V H170 (op_field (gwfld45_1 _ _) rfl (H170.ev rfl)) ?_
      intro _ H172; clear H170
      refine V H172 (op_load1 gwagg9 rfl (H172.ev rfl) (blk_at (O7.get 0 rfl) rfl)) ?_
      intro _ H174; clear H172
      have O183 : Own w0 _ [(Chunk.all [Bk g2 [J kd, .string nm, .string dest, J n, .slice Ay y.length cy, .slice A5 n5 c5] 45, R]), Chunk.disk w0.heap.size gd S d] := Own.bundle (A := [Bk g2 [J kd, .string nm, .string dest, J n, .slice Ay y.length cy, .slice A5 n5 c5] 45, R]) (L := [Chunk.disk w0.heap.size gd S d]) (O7.sel [0, 1, 2] (by decide))
      refine gw_call H174 (want_none rfl) rfl (by decide) (op_callL Try.func20 (by kernel_rfl) rfl rfl (ar_cons (H174.ev rfl) (ar_cons (H174.ev rfl) ar_nil))) (remove_calls w0 _ (Chunk.all [Bk g2 [J kd, .string nm, .string dest, J n, .slice Ay y.length cy, .slice A5 n5 c5] 45, R]) gd S d nm hw hn (by exact O183)) ?_
      rintro e177 w178 ⟨rfl, S175, hb179⟩
      refine ⟨_, rfl, fun _ H181 => ?_⟩
      have O182 : Own w0 w178 [Bk g2 [J kd, .string nm, .string dest, J n, .slice Ay y.length cy, .slice A5 n5 c5] 45, R, Chunk.disk w0.heap.size gd S175 ((removeD nm d).1)] := Own.unbundle (A := [Bk g2 [J kd, .string nm, .string dest, J n, .slice Ay y.length cy, .slice A5 n5 c5] 45, R]) (L := [Chunk.disk w0.heap.size gd S175 ((removeD nm d).1)]) (hb179.sel [0, 1] (by decide))
      clear O183
      clear H174 O7 hb179
      have O185 : Own w0 w178 [Bk g2 [J kd, .string nm, .string dest, J n, .slice Ay y.length cy, .slice A5 n5 c5] 45, R, Chunk.disk w0.heap.size gd S175 ((removeD nm d).1)] := O182
      clear O182
      have hwf176 : wfD ((removeD nm d).1) := wf_remove hw
      refine V H181 (op_assign rfl (H181.ev rfl)) ?_
      intro _ H187; clear H181
      refine wpList_nil ?_
      refine gw_nx (hK168 _ _ ?_)
      refine wp_ret ?_
      refine gw_ret1 H187 rfl rfl ?_
      rw [does6 hk1 hk2 hk3 hk4 hk5]
      exact ⟨rfl, _, O185.sel [1, 2] (by decide)⟩
end GVfsD_
export GVfsD_ (does_calls)
end Go.Proofs.Ytkdahjnmldeklaa.PA
end
section
namespace Go.Proofs.Ytkdahjnmldeklaa.PA
open Go.RowKit Go.Proofs.YtkdahjnmldeklaaW.PrintWords Go.Proofs.YtkdahjnmldeklaaW.PrintLast Go.Proofs.YtkdahjnmldeklaaW.PrintMore
set_option linter.unusedVariables false
set_option linter.unusedSimpArgs false
namespace GVfsP_
theorem gwagg28 : ∀ w, (isAgg 28).run Try.prog w = .ok false w := fun _ => by kernel_rfl
theorem gwagg3 : ∀ w, (isAgg 3).run Try.prog w = .ok false w := fun _ => by kernel_rfl
theorem gwagg32 : ∀ w, (isAgg 32).run Try.prog w = .ok false w := fun _ => by kernel_rfl
theorem gwagg45 : ∀ w, (isAgg 45).run Try.prog w = .ok true w := fun _ => by kernel_rfl
theorem gwagg50 : ∀ w, (isAgg 50).run Try.prog w = .ok true w := fun _ => by kernel_rfl
theorem gwagg9 : ∀ w, (isAgg 9).run Try.prog w = .ok false w := fun _ => by kernel_rfl
theorem gwfld45_0 (g off : Nat) : ∀ w, (Instr.fieldAt 45 (.pointer (some ⟨g, off, none⟩)) 0).run Try.prog w = .ok (.pointer (some ⟨g, off + 0, none⟩)) w := fun _ => by kernel_rfl
theorem gwfld45_1 (g off : Nat) : ∀ w, (Instr.fieldAt 45 (.pointer (some ⟨g, off, none⟩)) 1).run Try.prog w = .ok (.pointer (some ⟨g, off + 1, none⟩)) w := fun _ => by kernel_rfl
theorem gwfld45_2 (g off : Nat) : ∀ w, (Instr.fieldAt 45 (.pointer (some ⟨g, off, none⟩)) 2).run Try.prog w = .ok (.pointer (some ⟨g, off + 2, none⟩)) w := fun _ => by kernel_rfl
theorem gwfld45_3 (g off : Nat) : ∀ w, (Instr.fieldAt 45 (.pointer (some ⟨g, off, none⟩)) 3).run Try.prog w = .ok (.pointer (some ⟨g, off + 3, none⟩)) w := fun _ => by kernel_rfl
theorem gwfld45_4 (g off : Nat) : ∀ w, (Instr.fieldAt 45 (.pointer (some ⟨g, off, none⟩)) 4).run Try.prog w = .ok (.pointer (some ⟨g, off + 4, none⟩)) w := fun _ => by kernel_rfl
theorem gwfld45_5 (g off : Nat) : ∀ w, (Instr.fieldAt 45 (.pointer (some ⟨g, off, none⟩)) 5).run Try.prog w = .ok (.pointer (some ⟨g, off + 5, none⟩)) w := fun _ => by kernel_rfl
theorem gwfld50_2 (g off : Nat) : ∀ w, (Instr.fieldAt 50 (.pointer (some ⟨g, off, none⟩)) 2).run Try.prog w = .ok (.pointer (some ⟨g, off + 2, none⟩)) w := fun _ => by kernel_rfl
theorem gwsiz3 : ∀ w, (sizeOf 3).run Try.prog w = .ok 1 w := fun _ => by kernel_rfl
theorem gwsiz45 : ∀ w, (sizeOf 45).run Try.prog w = .ok 6 w := fun _ => by kernel_rfl
theorem gwsiz50 : ∀ w, (sizeOf 50).run Try.prog w = .ok 4 w := fun _ => by kernel_rfl
theorem gwzer45 : ∀ w, (zeroValue 45).run Try.prog w = .ok (.agg #[.int .i64 0, .string (⟨#[]⟩ : ByteArray), .string (⟨#[]⟩ : ByteArray), .int .i64 0, .slice none 0 0, .slice none 0 0]) w := fun _ => by kernel_rfl
theorem gwzer50 : ∀ w, (zeroValue 50).run Try.prog w = .ok (.agg #[.slice none 0 0, .int .i64 0, .int .i64 0, .bool false]) w := fun _ => by kernel_rfl
set_option maxHeartbeats 4000000 in
set_option maxRecDepth 100000 in
theorem VfsPlays_walk (room : Int) (A1 : Option Addr) (c1 : Nat) (script : List S45) (name : ByteArray) (w : World) (hr1c : Kd.C k45 w A1 script.length script) (hc1 : script.length ≤ c1) (hrm : room ≤ 9223372036854775807) (hl : script.length ≤ 4000000000000) (hz : ∀ x ∈ script, x.f1.size ≤ 9223372036854775807 ∧ x.f2.size ≤ 9223372036854775807) (hn : ∀ x ∈ script, x.f3 ≤ 9223372036854775807 ∧ x.f4.length ≤ 140737488355327) (hnm : name.size ≤ 9223372036854775807) :
    Calls Try.prog 7 #[.int .i64 room, .slice A1 script.length c1, .string name] w fun e w' => e = .returned (.bool true) ∧ Below w.heap.size w w' := by
 refine gw_start (N := 124) (vs := [J room, .slice A1 script.length c1, .string name]) Try.func7 rfl rfl (by simp) fun a HF HO => ?_
 replace HO : Own w w [] := HO
 refine gw_seq fun K1 hK1 => ?_
 refine wp_region_lit ?_
 refine V HF (op_assign rfl (ev_c _ _)) ?_
 intro _ H3; clear HF
 refine wpList_nil ?_
 refine gw_nx (hK1 _ _ ?_)
 refine gw_seq fun K4 hK4 => ?_
 refine wp_region_lit ?_
 refine V H3 (op_move rfl (H3.ev rfl)) ?_
 intro _ H6; clear H3
 have O16 : Own w _ [(Chunk.all [])] := Own.bundle (A := []) (L := []) (HO.sel [] (by decide))
 refine gw_call H6 (want_none rfl) rfl (by decide) (op_callL Try.func11 (by kernel_rfl) rfl rfl (ar_cons (H6.ev rfl) ar_nil)) (new_own w _ (Chunk.all []) room (by exact O16)) ?_
 rintro e10 w11 ⟨gd7, S8, rfl, hb12⟩
 refine ⟨_, rfl, fun _ H14 => ?_⟩
 have O15 : Own w w11 [Chunk.disk w.heap.size gd7 S8 (newD room)] := Own.unbundle (A := []) (L := [Chunk.disk w.heap.size gd7 S8 (newD room)]) (hb12.sel [0, 1] (by decide))
 clear O16
 clear H6 HO hb12
 have O18 : Own w w11 [Chunk.disk w.heap.size gd7 S8 (newD room)] := O15
 clear O15
 have hwf9 : wfD (newD room) := wf_new (by omega)
 refine V H14 (op_assign rfl (H14.ev rfl)) ?_
 intro _ H20; clear H14
 refine wpList_nil ?_
 refine gw_nx (hK4 _ _ ?_)
 refine gw_seq fun K21 hK21 => ?_
 refine gw_seq fun K22 hK22 => ?_
 refine wp_region_lit ?_
 refine V H20 (op_move rfl (H20.ev rfl)) ?_
 intro _ H24; clear H20
 refine V H24 (op_eqp_nil Try.underlying23 rfl (H24.ev rfl)) ?_
 intro _ H26; clear H24
 refine V H26 (op_move rfl (H26.ev rfl)) ?_
 intro _ H28; clear H26
 refine gw_call H28 (want_yes H28 rfl rfl rfl rfl) rfl (by decide) (op_callL Try.func12 (by kernel_rfl) rfl rfl ar_nil) (alive_calls _) ?_
 rintro e29 w30 ⟨rfl, hb31⟩
 refine ⟨_, rfl, fun _ H33 => ?_⟩
 have O34 := O18.after hb31
 clear H28 O18 hb31
 refine V2 H33 (want_yes H33 rfl rfl rfl rfl) (op_not rfl (H33.ev rfl)) ?_
 intro _ H37; clear H33
 refine V H37 (op_pick_f rfl (H37.ev rfl) (H37.ev rfl)) ?_
 intro _ H39; clear H37
 refine wpList_nil ?_
 refine gw_nx (hK22 _ _ ?_)
 refine gw_cond H39 rfl (fun hb40 => ?_) (fun hb40 => ?_)
 skip
 ·
  cases hb40
 refine wp_skip ?_
 refine gw_nx (hK21 _ _ ?_)
 refine gw_seq fun K41 hK41 => ?_
 refine wp_region_lit ?_
 refine V H39 (op_move rfl (H39.ev rfl)) ?_
 intro _ H43; clear H39
 refine gw_call H43 (want_none rfl) rfl (by decide) (op_callL Try.func26 (by kernel_rfl) rfl rfl (ar_cons (H43.ev rfl) ar_nil)) (new_ref room _) ?_
 rintro e44 w45 ⟨rfl, hb46⟩
 refine ⟨_, rfl, fun _ H48 => ?_⟩
 have O49 := O34.after hb46
 clear H43 O34 hb46
 refine gw_new H48 O49 (want_none rfl) rfl (by decide) (op_alloc gwzer50 rfl) ?_
 intro g51 _ w53 H54 O55; clear H48 O49
 have O56 : Own w w53 [Bk g51 [.slice none 0 0, J 0, J 0, .bool false] 50, Chunk.disk w.heap.size gd7 S8 (newD room)] := O55
 clear O55
 refine gw_setn 0 H54 O56 rfl (want_none rfl) rfl (op_storen gwsiz50 rfl (H54.ev rfl) (H54.ev rfl) (O56.get 0 rfl) rfl (by simp) (by simp [Value.oneCell'])) ?_
 intro _ w59 H58 O60; clear H54 O56
 have O61 : Own w w59 [Bk g51 [.slice none 0 0, J ((newD room).most), J 0, .bool false] 50, Chunk.disk w.heap.size gd7 S8 (newD room)] := O60
 clear O60
 refine wpList_nil ?_
 refine gw_nx (hK41 _ _ ?_)
 refine gw_seq fun K62 hK62 => ?_
 refine wp_region_lit ?_
 refine V H58 (op_assign rfl (ev_c _ _)) ?_
 intro _ H64; clear H58
 refine wpList_nil ?_
 refine gw_nx (hK62 _ _ ?_)
 refine gw_seq fun K65 hK65 => ?_
 refine gw_seq fun K66 hK66 => ?_
 refine wp_region_lit ?_
 refine V H64 (op_move rfl (H64.ev rfl)) ?_
 intro _ H68; clear H64
 refine V H68 (op_len Try.underlying43 rfl (H68.ev rfl)) ?_
 intro _ H70; clear H68
 refine V H70 (op_move rfl (ev_c _ _)) ?_
 intro _ H72; clear H70
 refine wpList_nil ?_
 refine gw_nx (hK66 _ _ ?_)
 refine wp_block ?_
 have HOv_ := O61.view_nil k93
 clear O61
 refine gw_loop (fun m_ a_ w_ => ∃ (i : Int) (d : PD) (Sd : Nat → Prop) (files : List S93) (Sm : Nat → Prop) (Am : Option Addr) (cm : Nat) (used : Int), Fr 124 a_ [(30, J i), (9, J used), (2, .string name), (7, .pointer (some ⟨gd7, 0, none⟩)), (8, .pointer (some ⟨g51, 0, none⟩)), (28, .slice A1 script.length c1), (29, J (script.length : Int))] ∧ Own w w_ [Chunk.disk w.heap.size gd7 Sd d, Chunk.view k93 Sm Am files.length cm files, Bk g51 [.slice Am files.length cm, J d.most, J d.fuse, .bool d.down] 50] ∧ (0 ≤ i ∧ i ≤ script.length) ∧ (JP d used) ∧ (0 ≤ used ∧ used ≤ 20000) ∧ (files.map ofS = d.fs) ∧ m_ = (script.length - i.toNat)) ((script.length - (0 : Int).toNat)) ?_ ?_
 ·
  refine ⟨0, (newD room), S8, [], (fun _ => False), none, 0, 0, (H72.pick (t := 30) rfl (H72.pick (t := 9) rfl (H72.pick (t := 2) rfl (H72.pick (t := 7) rfl (H72.pick (t := 8) rfl (H72.pick (t := 28) rfl (H72.pick (t := 29) rfl H72.nil))))))), HOv_.sel [2, 0, 1] (by decide), ?_, ?_, ?_, ?_, rfl⟩
  ·
   omega
  ·
   exact ⟨wf_new (by omega), Int.le_refl _, Int.le_refl _⟩
  ·
   omega
  ·
   rfl
 ·
  rintro m74 _ w76 ⟨i, d, Sd, files, Sm, Am, cm, used, H77, O78, hi, hJ, hu, hd, hm79⟩
  have hJl := hJ.len
  have hJb := hJ.by_
  have hfl : files.length = d.fs.length := by rw [← hd, List.length_map]
  refine gw_seq fun K80 hK80 => ?_
  refine wp_region_lit ?_
  refine V H77 (op_lss rfl (H77.ev rfl) (H77.ev rfl)) ?_
  intro _ H82; clear H77
  refine wpList_nil ?_
  refine gw_nx (hK80 _ _ ?_)
  refine gw_seq fun K83 hK83 => ?_
  refine gw_cond H82 rfl (fun hb84 => ?_) (fun hb84 => ?_)
  ·
   have H85 := H82.subst_ (d := 31) (b := true) rfl hb84
   clear H82
   (try simp only [decide_eq_true_eq] at hb84)
   have hzx := hz _ (getD_mem (z := z45) script i.toNat (by omega))
   have hnx := hn _ (getD_mem (z := z45) script i.toNat (by omega))
   have hJm : JP d (used + (((script.getD i.toNat z45).f4.length : Int) + 8)) := hJ.more (by omega)
   refine wp_skip ?_
   refine gw_nx (hK83 _ _ ?_)
   refine gw_seq fun K86 hK86 => ?_
   refine wp_block ?_
   refine gw_seq fun K87 hK87 => ?_
   refine wp_region_lit ?_
   obtain ⟨ad88, cs91, hA89, hl92, hK93, hc90⟩ := Kd.C_get hr1c z45 i (by omega) (by omega)
   obtain ⟨A94, c95, A98, c99, rfl, hl96, hC97, hl100, hC101⟩ := k45_open hK93
   clear hl92
   refine V H85 (op_index Try.underlying43 gwsiz45 rfl (H85.ev rfl) (H85.ev rfl) hA89 (⟨by omega, by omega⟩)) ?_
   intro _ H103; clear H85
   refine V H103 (op_loadc gwagg45 gwsiz45 rfl (H103.ev rfl) rfl (cells0 O78 hc90)) ?_
   intro _ H105; clear H103
   refine gw_new H105 O78 (want_none rfl) rfl (by decide) (op_alloc gwzer45 rfl) ?_
   intro g106 _ w108 H109 O110; clear H105 O78
   have O111 : Own w w108 [Bk g106 [J 0, .string (⟨#[]⟩ : ByteArray), .string (⟨#[]⟩ : ByteArray), J 0, .slice none 0 0, .slice none 0 0] 45, Chunk.disk w.heap.size gd7 Sd d, Chunk.view k93 Sm Am files.length cm files, Bk g51 [.slice Am files.length cm, J d.most, J d.fuse, .bool d.down] 50] := O110
   clear O110
   refine gw_setn 0 H109 O111 rfl (want_none rfl) rfl (op_storen gwsiz45 rfl (H109.ev rfl) (H109.ev rfl) (O111.get 0 rfl) rfl (by simp) (by simp [Value.oneCell'])) ?_
   intro _ w114 H113 O115; clear H109 O111
   have O116 : Own w w114 [Bk g106 [J ((script.getD i.toNat z45).f0), .string ((script.getD i.toNat z45).f1), .string ((script.getD i.toNat z45).f2), J ((script.getD i.toNat z45).f3), .slice A94 ((script.getD i.toNat z45).f4.length) c95, .slice A98 ((script.getD i.toNat z45).f5.length) c99] 45, Chunk.disk w.heap.size gd7 Sd d, Chunk.view k93 Sm Am files.length cm files, Bk g51 [.slice Am files.length cm, J d.most, J d.fuse, .bool d.down] 50] := O115
   clear O115
   refine wpList_nil ?_
   refine gw_nx (hK87 _ _ ?_)
   refine gw_seq fun K117 hK117 => ?_
   refine wp_region_lit ?_
   refine V H113 (op_move rfl (H113.ev rfl)) ?_
   intro _ H119; clear H113
   refine V H119 (op_field (gwfld45_4 _ _) rfl (H119.ev rfl)) ?_
   intro _ H121; clear H119
   refine V H121 (op_load1 gwagg28 rfl (H121.ev rfl) (blk_at (O116.get 0 rfl) rfl)) ?_
   intro _ H123; clear H121
   refine V H123 (op_len Try.underlying28 rfl (H123.ev rfl)) ?_
   intro _ H125; clear H123
   refine V H125 (op_add rfl (H125.ev rfl) (ev_c _ _) (by omega)) ?_
   intro _ H127; clear H125
   refine V H127 (op_add rfl (H127.ev rfl) (H127.ev rfl) (by omega)) ?_
   intro _ H129; clear H127
   refine V H129 (op_assign rfl (H129.ev rfl)) ?_
   intro _ H131; clear H129
   refine wpList_nil ?_
   refine gw_nx (hK117 _ _ ?_)
   refine gw_seq fun K132 hK132 => ?_
   refine gw_seq fun K133 hK133 => ?_
   refine wp_region_lit ?_
   refine V H131 (op_move rfl (H131.ev rfl)) ?_
   intro _ H135; clear H131
   refine V H135 (op_gtr rfl (H135.ev rfl) (ev_c _ _)) ?_
   intro _ H137; clear H135
   refine wpList_nil ?_
   refine gw_nx (hK133 _ _ ?_)
   refine gw_cond H137 rfl (fun hb138 => ?_) (fun hb138 => ?_)
   ·
    have H139 := H137.subst_ (d := 41) (b := true) rfl hb138
    clear H137
    (try simp only [decide_eq_true_eq] at hb138)
    refine gw_seq fun K140 hK140 => ?_
    refine wp_region_lit ?_
    refine V H139 (op_assign rfl (ev_c _ _)) ?_
    intro _ H142; clear H139
    refine wpList_nil ?_
    refine gw_nx (hK140 _ _ ?_)
    refine wp_ret ?_
    refine gw_thr ?_
    refine gw_blr ?_
    refine gw_thr ?_
    refine gw_thr ?_
    refine gw_blr ?_
    refine gw_thr ?_
    refine gw_ret1 H142 rfl rfl ?_
    exact ⟨rfl, O116.below⟩
   ·
    have H143 := H137.subst_ (d := 41) (b := false) rfl hb138
    clear H137
    (try simp only [decide_eq_false_iff_not, Int.not_lt] at hb138)
    refine wp_skip ?_
    refine gw_nx (hK132 _ _ ?_)
    refine gw_seq fun K144 hK144 => ?_
    refine wp_region_lit ?_
    refine V H143 (op_assign rfl (ev_c _ _)) ?_
    intro _ H146; clear H143
    refine V H146 (op_assign rfl (ev_c _ _)) ?_
    intro _ H148; clear H146
    refine wpList_nil ?_
    refine gw_nx (hK144 _ _ ?_)
    refine gw_seq fun K149 hK149 => ?_
    refine wp_block ?_
    refine gw_seq fun K150 hK150 => ?_
    refine wp_region_lit ?_
    refine V H148 (op_field (gwfld45_0 _ _) rfl (H148.ev rfl)) ?_
    intro _ H152; clear H148
    refine V H152 (op_load1 gwagg3 rfl (H152.ev rfl) (blk_at (O116.get 0 rfl) rfl)) ?_
    intro _ H154; clear H152
    refine V H154 (op_geq rfl (H154.ev rfl) (ev_c _ _)) ?_
    intro _ H156; clear H154
    refine V H156 (op_move rfl (H156.ev rfl)) ?_
    intro _ H158; clear H156
    refine gw_evG H158 rfl rfl rfl rfl (on_t _) rfl (by decide) (fun h_ => (op_field (gwfld45_0 _ _) rfl (H158.ev rfl))) ?_
    intro _ H160; clear H158
    refine gw_evG H160 rfl rfl rfl rfl (on_t _) rfl (by decide) (fun h_ => (op_load1 gwagg3 rfl (ev_gv (H160.ev rfl) h_) (blk_at (O116.get 0 rfl) rfl))) ?_
    intro _ H162; clear H160
    refine gw_evG H162 rfl rfl rfl rfl (on_t _) rfl (by decide) (fun h_ => (op_leq rfl (ev_gv (H162.ev rfl) h_) (ev_c _ _))) ?_
    intro _ H164; clear H162
    refine V H164 (op_pick_and rfl (H164.ev rfl) (fun hp_ => (ev_gv (H164.ev rfl) hp_)) (ev_c _ _)) ?_
    intro _ H166; clear H164
    refine V H166 (op_assign rfl (H166.ev rfl)) ?_
    intro _ H168; clear H166
    refine wpList_nil ?_
    refine gw_nx (hK150 _ _ ?_)
    refine gw_cond H168 rfl (fun hb169 => ?_) (fun hb169 => ?_)
    ·
     have H170 := H168.subst_ (d := 42) (b := true) rfl hb169
     clear H168
     (try simp only [Bool.and_eq_true, Bool.or_eq_true, Bool.and_eq_false_iff, Bool.or_eq_false_iff, Bool.not_and, Bool.not_or, Bool.not_not, decide_eq_true_eq, decide_eq_false_iff_not, Bool.not_eq_true', Bool.not_eq_false', Bool.not_eq_true, Bool.not_eq_false, ne_eq, Decidable.not_not, Int.not_lt, Int.not_le, not_true_eq_false, not_false_eq_true, bne_iff_ne, beq_iff_eq, bne_eq_false_iff_eq, beq_eq_false_iff_ne] at hb169)
     refine gw_seq fun K171 hK171 => ?_
     refine wp_region_lit ?_
     refine V H170 (op_move rfl (H170.ev rfl)) ?_
     intro _ H173; clear H170
     refine V H173 (op_loadn gwagg45 gwsiz45 rfl (H173.ev rfl) (O116.get 0 rfl) rfl rfl) ?_
     intro _ H175; clear H173
     have O184 : Own w _ [(Chunk.all [Bk g106 [J ((script.getD i.toNat z45).f0), .string ((script.getD i.toNat z45).f1), .string ((script.getD i.toNat z45).f2), J ((script.getD i.toNat z45).f3), .slice A94 ((script.getD i.toNat z45).f4.length) c95, .slice A98 ((script.getD i.toNat z45).f5.length) c99] 45, Chunk.view k93 Sm Am files.length cm files, Bk g51 [.slice Am files.length cm, J d.most, J d.fuse, .bool d.down] 50]), Chunk.disk w.heap.size gd7 Sd d] := Own.bundle (A := [Bk g106 [J ((script.getD i.toNat z45).f0), .string ((script.getD i.toNat z45).f1), .string ((script.getD i.toNat z45).f2), J ((script.getD i.toNat z45).f3), .slice A94 ((script.getD i.toNat z45).f4.length) c95, .slice A98 ((script.getD i.toNat z45).f5.length) c99] 45, Chunk.view k93 Sm Am files.length cm files, Bk g51 [.slice Am files.length cm, J d.most, J d.fuse, .bool d.down] 50]) (L := [Chunk.disk w.heap.size gd7 Sd d]) (O116.sel [0, 2, 3, 1] (by decide))
     refine gw_call H175 (want_none rfl) rfl (by decide) (op_callL Try.func25 (by kernel_rfl) rfl rfl (ar_cons (H175.ev rfl) (ar_cons (H175.ev rfl) ar_nil))) (does_calls w _ (Chunk.all [Bk g106 [J ((script.getD i.toNat z45).f0), .string ((script.getD i.toNat z45).f1), .string ((script.getD i.toNat z45).f2), J ((script.getD i.toNat z45).f3), .slice A94 ((script.getD i.toNat z45).f4.length) c95, .slice A98 ((script.getD i.toNat z45).f5.length) c99] 45, Chunk.view k93 Sm Am files.length cm files, Bk g51 [.slice Am files.length cm, J d.most, J d.fuse, .bool d.down] 50]) gd7 Sd d ((script.getD i.toNat z45).f0) ((script.getD i.toNat z45).f1) ((script.getD i.toNat z45).f2) ((script.getD i.toNat z45).f3) A94 c95 ((script.getD i.toNat z45).f4) (fun w_ h_ => Kd.C_below hC97 h_.below) hl96 A98 ((script.getD i.toNat z45).f5.length) c99 hJ.wf hzx.1 hzx.2 (by omega) (by omega) (by exact O184)) ?_
     rintro e178 w179 ⟨rfl, S176, hb180⟩
     refine ⟨_, rfl, fun _ H182 => ?_⟩
     have O183 : Own w w179 [Bk g106 [J ((script.getD i.toNat z45).f0), .string ((script.getD i.toNat z45).f1), .string ((script.getD i.toNat z45).f2), J ((script.getD i.toNat z45).f3), .slice A94 ((script.getD i.toNat z45).f4.length) c95, .slice A98 ((script.getD i.toNat z45).f5.length) c99] 45, Chunk.view k93 Sm Am files.length cm files, Bk g51 [.slice Am files.length cm, J d.most, J d.fuse, .bool d.down] 50, Chunk.disk w.heap.size gd7 S176 ((doesD ((script.getD i.toNat z45).f0) ((script.getD i.toNat z45).f1) ((script.getD i.toNat z45).f2) ((script.getD i.toNat z45).f3) ((script.getD i.toNat z45).f4) d).1)] := Own.unbundle (A := [Bk g106 [J ((script.getD i.toNat z45).f0), .string ((script.getD i.toNat z45).f1), .string ((script.getD i.toNat z45).f2), J ((script.getD i.toNat z45).f3), .slice A94 ((script.getD i.toNat z45).f4.length) c95, .slice A98 ((script.getD i.toNat z45).f5.length) c99] 45, Chunk.view k93 Sm Am files.length cm files, Bk g51 [.slice Am files.length cm, J d.most, J d.fuse, .bool d.down] 50]) (L := [Chunk.disk w.heap.size gd7 S176 ((doesD ((script.getD i.toNat z45).f0) ((script.getD i.toNat z45).f1) ((script.getD i.toNat z45).f2) ((script.getD i.toNat z45).f3) ((script.getD i.toNat z45).f4) d).1)]) (hb180.sel [0, 1] (by decide))
     clear O184
     clear H175 O116 hb180
     have O186 : Own w w179 [Bk g106 [J ((script.getD i.toNat z45).f0), .string ((script.getD i.toNat z45).f1), .string ((script.getD i.toNat z45).f2), J ((script.getD i.toNat z45).f3), .slice A94 ((script.getD i.toNat z45).f4.length) c95, .slice A98 ((script.getD i.toNat z45).f5.length) c99] 45, Chunk.view k93 Sm Am files.length cm files, Bk g51 [.slice Am files.length cm, J d.most, J d.fuse, .bool d.down] 50, Chunk.disk w.heap.size gd7 S176 ((doesD ((script.getD i.toNat z45).f0) ((script.getD i.toNat z45).f1) ((script.getD i.toNat z45).f2) ((script.getD i.toNat z45).f3) ((script.getD i.toNat z45).f4) d).1)] := O183
     clear O183
     have hJ2 : JP ((doesD ((script.getD i.toNat z45).f0) ((script.getD i.toNat z45).f1) ((script.getD i.toNat z45).f2) ((script.getD i.toNat z45).f3) ((script.getD i.toNat z45).f4) d).1) (used + ((((script.getD i.toNat z45).f4).length : Int) + 8)) := hJ.does
     refine V H182 (op_assign rfl (H182.ev rfl)) ?_
     intro _ H188; clear H182
     refine wpList_nil ?_
     refine gw_nx (hK171 _ _ ?_)
     refine wp_region_lit ?_
     refine V H188 (op_loadn gwagg50 gwsiz50 rfl (H188.ev rfl) (O186.get 2 rfl) rfl rfl) ?_
     intro _ H190; clear H188
     refine V H190 (op_field (gwfld45_0 _ _) rfl (H190.ev rfl)) ?_
     intro _ H192; clear H190
     refine V H192 (op_load1 gwagg3 rfl (H192.ev rfl) (blk_at (O186.get 0 rfl) rfl)) ?_
     intro _ H194; clear H192
     refine V H194 (op_field (gwfld45_1 _ _) rfl (H194.ev rfl)) ?_
     intro _ H196; clear H194
     refine V H196 (op_load1 gwagg9 rfl (H196.ev rfl) (blk_at (O186.get 0 rfl) rfl)) ?_
     intro _ H198; clear H196
     refine V H198 (op_field (gwfld45_2 _ _) rfl (H198.ev rfl)) ?_
     intro _ H200; clear H198
     refine V H200 (op_load1 gwagg9 rfl (H200.ev rfl) (blk_at (O186.get 0 rfl) rfl)) ?_
     intro _ H202; clear H200
     refine V H202 (op_field (gwfld45_3 _ _) rfl (H202.ev rfl)) ?_
     intro _ H204; clear H202
     refine V H204 (op_load1 gwagg3 rfl (H204.ev rfl) (blk_at (O186.get 0 rfl) rfl)) ?_
     intro _ H206; clear H204
     refine V H206 (op_field (gwfld45_4 _ _) rfl (H206.ev rfl)) ?_
     intro _ H208; clear H206
     refine V H208 (op_load1 gwagg28 rfl (H208.ev rfl) (blk_at (O186.get 0 rfl) rfl)) ?_
     intro _ H210; clear H208
     refine V H210 (op_build (cells := #[J ((script.getD i.toNat z45).f0), .string ((script.getD i.toNat z45).f1), .string ((script.getD i.toNat z45).f2), J ((script.getD i.toNat z45).f3), .slice A94 ((script.getD i.toNat z45).f4.length) c95]) rfl (pt_cons (H210.ev rfl) (pt_cons (H210.ev rfl) (pt_cons (H210.ev rfl) (pt_cons (H210.ev rfl) (pt_cons (H210.ev rfl) pt_nil))))) (by kernel_rfl)) ?_
     intro _ H212; clear H210
     refine gw_call H212 (want_none rfl) rfl (by decide) (op_callL Try.func27 (by kernel_rfl) rfl rfl (ar_cons (H212.ev rfl) (ar_cons (H212.ev rfl) ar_nil))) (do_own Am cm files d ((script.getD i.toNat z45).f0) ((script.getD i.toNat z45).f1) ((script.getD i.toNat z45).f2) ((script.getD i.toNat z45).f3) A94 c95 ((script.getD i.toNat z45).f4) 1 O186 rfl (by omega) (by omega) hd hJ.wf (Kd.C_below hC97 O186.below) hl96 (by omega)) ?_
     rintro e218 w219 ⟨files213, A214, c215, S216, hd217, rfl, hb220⟩
     refine ⟨_, rfl, fun _ H222 => ?_⟩
     have O223 := O186.calls 1 rfl hb220
     clear H212 O186 hb220
     have O225 : Own w w219 [Bk g106 [J ((script.getD i.toNat z45).f0), .string ((script.getD i.toNat z45).f1), .string ((script.getD i.toNat z45).f2), J ((script.getD i.toNat z45).f3), .slice A94 ((script.getD i.toNat z45).f4.length) c95, .slice A98 ((script.getD i.toNat z45).f5.length) c99] 45, Chunk.view k93 S216 A214 files213.length c215 files213, Bk g51 [.slice Am files.length cm, J d.most, J d.fuse, .bool d.down] 50, Chunk.disk w.heap.size gd7 S176 ((doesD ((script.getD i.toNat z45).f0) ((script.getD i.toNat z45).f1) ((script.getD i.toNat z45).f2) ((script.getD i.toNat z45).f3) ((script.getD i.toNat z45).f4) d).1)] := O223
     clear O223
     refine V H222 (op_move rfl (H222.ev rfl)) ?_
     intro _ H227; clear H222
     refine V H227 (op_extract rfl (H227.ev rfl) rfl) ?_
     intro _ H229; clear H227
     refine V H229 (op_extract rfl (H229.ev rfl) rfl) ?_
     intro _ H231; clear H229
     refine gw_setn 2 H231 O225 rfl (want_none rfl) rfl (op_storen gwsiz50 rfl (H231.ev rfl) (H231.ev rfl) (O225.get 2 rfl) rfl (by simp) (by simp [Value.oneCell'])) ?_
     intro _ w234 H233 O235; clear H231 O225
     have O236 : Own w w234 [Bk g106 [J ((script.getD i.toNat z45).f0), .string ((script.getD i.toNat z45).f1), .string ((script.getD i.toNat z45).f2), J ((script.getD i.toNat z45).f3), .slice A94 ((script.getD i.toNat z45).f4.length) c95, .slice A98 ((script.getD i.toNat z45).f5.length) c99] 45, Chunk.view k93 S216 A214 files213.length c215 files213, Bk g51 [.slice A214 files213.length c215, J ((doesD ((script.getD i.toNat z45).f0) ((script.getD i.toNat z45).f1) ((script.getD i.toNat z45).f2) ((script.getD i.toNat z45).f3) ((script.getD i.toNat z45).f4) d).1.most), J ((doesD ((script.getD i.toNat z45).f0) ((script.getD i.toNat z45).f1) ((script.getD i.toNat z45).f2) ((script.getD i.toNat z45).f3) ((script.getD i.toNat z45).f4) d).1.fuse), .bool ((doesD ((script.getD i.toNat z45).f0) ((script.getD i.toNat z45).f1) ((script.getD i.toNat z45).f2) ((script.getD i.toNat z45).f3) ((script.getD i.toNat z45).f4) d).1.down)] 50, Chunk.disk w.heap.size gd7 S176 ((doesD ((script.getD i.toNat z45).f0) ((script.getD i.toNat z45).f1) ((script.getD i.toNat z45).f2) ((script.getD i.toNat z45).f3) ((script.getD i.toNat z45).f4) d).1)] := O235
     clear O235
     refine V H233 (op_assign rfl (H233.ev rfl)) ?_
     intro _ H238; clear H233
     refine wpList_nil ?_
     refine gw_blk ?_
     refine gw_nx (hK149 _ _ ?_)
     refine gw_seq fun K239 hK239 => ?_
     refine wp_region_lit ?_
     refine V H238 (op_move rfl (H238.ev rfl)) ?_
     intro _ H241; clear H238
     refine V H241 (op_move rfl (H241.ev rfl)) ?_
     intro _ H243; clear H241
     refine V H243 (op_nei rfl (H243.ev rfl) (H243.ev rfl)) ?_
     intro _ H245; clear H243
     have H246 := H245.lit (b := false) (by simp)
     clear H245
     refine V H246 (op_move rfl (H246.ev rfl)) ?_
     intro _ H248; clear H246
     refine V2 H248 (want_yes H248 rfl rfl rfl rfl) (op_move rfl (H248.ev rfl)) ?_
     intro _ H250; clear H248
     refine V2 H250 (want_yes H250 rfl rfl rfl rfl) (op_loadn gwagg50 gwsiz50 rfl (H250.ev rfl) (O236.get 2 rfl) rfl rfl) ?_
     intro _ H252; clear H250
     have O259 : Own w _ [(Chunk.all [Bk g106 [J ((script.getD i.toNat z45).f0), .string ((script.getD i.toNat z45).f1), .string ((script.getD i.toNat z45).f2), J ((script.getD i.toNat z45).f3), .slice A94 ((script.getD i.toNat z45).f4.length) c95, .slice A98 ((script.getD i.toNat z45).f5.length) c99] 45, Bk g51 [.slice A214 files213.length c215, J ((doesD ((script.getD i.toNat z45).f0) ((script.getD i.toNat z45).f1) ((script.getD i.toNat z45).f2) ((script.getD i.toNat z45).f3) ((script.getD i.toNat z45).f4) d).1.most), J ((doesD ((script.getD i.toNat z45).f0) ((script.getD i.toNat z45).f1) ((script.getD i.toNat z45).f2) ((script.getD i.toNat z45).f3) ((script.getD i.toNat z45).f4) d).1.fuse), .bool ((doesD ((script.getD i.toNat z45).f0) ((script.getD i.toNat z45).f1) ((script.getD i.toNat z45).f2) ((script.getD i.toNat z45).f3) ((script.getD i.toNat z45).f4) d).1.down)] 50]), Chunk.disk w.heap.size gd7 S176 ((doesD ((script.getD i.toNat z45).f0) ((script.getD i.toNat z45).f1) ((script.getD i.toNat z45).f2) ((script.getD i.toNat z45).f3) ((script.getD i.toNat z45).f4) d).1), Chunk.view k93 S216 A214 files213.length c215 files213] := Own.bundle (A := [Bk g106 [J ((script.getD i.toNat z45).f0), .string ((script.getD i.toNat z45).f1), .string ((script.getD i.toNat z45).f2), J ((script.getD i.toNat z45).f3), .slice A94 ((script.getD i.toNat z45).f4.length) c95, .slice A98 ((script.getD i.toNat z45).f5.length) c99] 45, Bk g51 [.slice A214 files213.length c215, J ((doesD ((script.getD i.toNat z45).f0) ((script.getD i.toNat z45).f1) ((script.getD i.toNat z45).f2) ((script.getD i.toNat z45).f3) ((script.getD i.toNat z45).f4) d).1.most), J ((doesD ((script.getD i.toNat z45).f0) ((script.getD i.toNat z45).f1) ((script.getD i.toNat z45).f2) ((script.getD i.toNat z45).f3) ((script.getD i.toNat z45).f4) d).1.fuse), .bool ((doesD ((script.getD i.toNat z45).f0) ((script.getD i.toNat z45).f1) ((script.getD i.toNat z45).f2) ((script.getD i.toNat z45).f3) ((script.getD i.toNat z45).f4) d).1.down)] 50]) (L := [Chunk.disk w.heap.size gd7 S176 ((doesD ((script.getD i.toNat z45).f0) ((script.getD i.toNat z45).f1) ((script.getD i.toNat z45).f2) ((script.getD i.toNat z45).f3) ((script.getD i.toNat z45).f4) d).1), Chunk.view k93 S216 A214 files213.length c215 files213]) (O236.sel [0, 2, 3, 1] (by decide))
     refine gw_call H252 (want_yes H252 rfl rfl rfl rfl) rfl (by decide) (op_callL Try.func29 (by kernel_rfl) rfl rfl (ar_cons (H252.ev rfl) (ar_cons (H252.ev rfl) ar_nil))) ((by have hJ_ := hJ2; have hl1_ := hJ_.len; have hl2_ := hJ_.by_; rcases Bool.eq_false_or_eq_true (((doesD ((script.getD i.toNat z45).f0) ((script.getD i.toNat z45).f1) ((script.getD i.toNat z45).f2) ((script.getD i.toNat z45).f3) ((script.getD i.toNat z45).f4) d).1).down) with hup_ | hup_; (· exact same_down w _ (Chunk.all [Bk g106 [J ((script.getD i.toNat z45).f0), .string ((script.getD i.toNat z45).f1), .string ((script.getD i.toNat z45).f2), J ((script.getD i.toNat z45).f3), .slice A94 ((script.getD i.toNat z45).f4.length) c95, .slice A98 ((script.getD i.toNat z45).f5.length) c99] 45, Bk g51 [.slice A214 files213.length c215, J ((doesD ((script.getD i.toNat z45).f0) ((script.getD i.toNat z45).f1) ((script.getD i.toNat z45).f2) ((script.getD i.toNat z45).f3) ((script.getD i.toNat z45).f4) d).1.most), J ((doesD ((script.getD i.toNat z45).f0) ((script.getD i.toNat z45).f1) ((script.getD i.toNat z45).f2) ((script.getD i.toNat z45).f3) ((script.getD i.toNat z45).f4) d).1.fuse), .bool ((doesD ((script.getD i.toNat z45).f0) ((script.getD i.toNat z45).f1) ((script.getD i.toNat z45).f2) ((script.getD i.toNat z45).f3) ((script.getD i.toNat z45).f4) d).1.down)] 50]) gd7 S176 ((doesD ((script.getD i.toNat z45).f0) ((script.getD i.toNat z45).f1) ((script.getD i.toNat z45).f2) ((script.getD i.toNat z45).f3) ((script.getD i.toNat z45).f4) d).1) S216 A214 c215 files213 hd217 hJ_.wf (by omega) (by omega) hup_ (by exact O259)); (· exact same_up w _ (Chunk.all [Bk g106 [J ((script.getD i.toNat z45).f0), .string ((script.getD i.toNat z45).f1), .string ((script.getD i.toNat z45).f2), J ((script.getD i.toNat z45).f3), .slice A94 ((script.getD i.toNat z45).f4.length) c95, .slice A98 ((script.getD i.toNat z45).f5.length) c99] 45, Bk g51 [.slice A214 files213.length c215, J ((doesD ((script.getD i.toNat z45).f0) ((script.getD i.toNat z45).f1) ((script.getD i.toNat z45).f2) ((script.getD i.toNat z45).f3) ((script.getD i.toNat z45).f4) d).1.most), J ((doesD ((script.getD i.toNat z45).f0) ((script.getD i.toNat z45).f1) ((script.getD i.toNat z45).f2) ((script.getD i.toNat z45).f3) ((script.getD i.toNat z45).f4) d).1.fuse), .bool ((doesD ((script.getD i.toNat z45).f0) ((script.getD i.toNat z45).f1) ((script.getD i.toNat z45).f2) ((script.getD i.toNat z45).f3) ((script.getD i.toNat z45).f4) d).1.down)] 50]) gd7 S176 ((doesD ((script.getD i.toNat z45).f0) ((script.getD i.toNat z45).f1) ((script.getD i.toNat z45).f2) ((script.getD i.toNat z45).f3) ((script.getD i.toNat z45).f4) d).1) S216 A214 c215 files213 hd217 hJ_.wf (by omega) (by omega) hup_ (by exact O259)))) ?_
     rintro e253 w254 ⟨rfl, hb255⟩
     refine ⟨_, rfl, fun _ H257 => ?_⟩
     have O258 : Own w w254 [Bk g106 [J ((script.getD i.toNat z45).f0), .string ((script.getD i.toNat z45).f1), .string ((script.getD i.toNat z45).f2), J ((script.getD i.toNat z45).f3), .slice A94 ((script.getD i.toNat z45).f4.length) c95, .slice A98 ((script.getD i.toNat z45).f5.length) c99] 45, Bk g51 [.slice A214 files213.length c215, J ((doesD ((script.getD i.toNat z45).f0) ((script.getD i.toNat z45).f1) ((script.getD i.toNat z45).f2) ((script.getD i.toNat z45).f3) ((script.getD i.toNat z45).f4) d).1.most), J ((doesD ((script.getD i.toNat z45).f0) ((script.getD i.toNat z45).f1) ((script.getD i.toNat z45).f2) ((script.getD i.toNat z45).f3) ((script.getD i.toNat z45).f4) d).1.fuse), .bool ((doesD ((script.getD i.toNat z45).f0) ((script.getD i.toNat z45).f1) ((script.getD i.toNat z45).f2) ((script.getD i.toNat z45).f3) ((script.getD i.toNat z45).f4) d).1.down)] 50, Chunk.disk w.heap.size gd7 S176 ((doesD ((script.getD i.toNat z45).f0) ((script.getD i.toNat z45).f1) ((script.getD i.toNat z45).f2) ((script.getD i.toNat z45).f3) ((script.getD i.toNat z45).f4) d).1), Chunk.view k93 S216 A214 files213.length c215 files213] := Own.unbundle (A := [Bk g106 [J ((script.getD i.toNat z45).f0), .string ((script.getD i.toNat z45).f1), .string ((script.getD i.toNat z45).f2), J ((script.getD i.toNat z45).f3), .slice A94 ((script.getD i.toNat z45).f4.length) c95, .slice A98 ((script.getD i.toNat z45).f5.length) c99] 45, Bk g51 [.slice A214 files213.length c215, J ((doesD ((script.getD i.toNat z45).f0) ((script.getD i.toNat z45).f1) ((script.getD i.toNat z45).f2) ((script.getD i.toNat z45).f3) ((script.getD i.toNat z45).f4) d).1.most), J ((doesD ((script.getD i.toNat z45).f0) ((script.getD i.toNat z45).f1) ((script.getD i.toNat z45).f2) ((script.getD i.toNat z45).f3) ((script.getD i.toNat z45).f4) d).1.fuse), .bool ((doesD ((script.getD i.toNat z45).f0) ((script.getD i.toNat z45).f1) ((script.getD i.toNat z45).f2) ((script.getD i.toNat z45).f3) ((script.getD i.toNat z45).f4) d).1.down)] 50]) (L := [Chunk.disk w.heap.size gd7 S176 ((doesD ((script.getD i.toNat z45).f0) ((script.getD i.toNat z45).f1) ((script.getD i.toNat z45).f2) ((script.getD i.toNat z45).f3) ((script.getD i.toNat z45).f4) d).1), Chunk.view k93 S216 A214 files213.length c215 files213]) (hb255.sel [0, 1, 2] (by decide))
     clear O259
     clear H252 O236 hb255
     have O261 : Own w w254 [Bk g106 [J ((script.getD i.toNat z45).f0), .string ((script.getD i.toNat z45).f1), .string ((script.getD i.toNat z45).f2), J ((script.getD i.toNat z45).f3), .slice A94 ((script.getD i.toNat z45).f4.length) c95, .slice A98 ((script.getD i.toNat z45).f5.length) c99] 45, Bk g51 [.slice A214 files213.length c215, J ((doesD ((script.getD i.toNat z45).f0) ((script.getD i.toNat z45).f1) ((script.getD i.toNat z45).f2) ((script.getD i.toNat z45).f3) ((script.getD i.toNat z45).f4) d).1.most), J ((doesD ((script.getD i.toNat z45).f0) ((script.getD i.toNat z45).f1) ((script.getD i.toNat z45).f2) ((script.getD i.toNat z45).f3) ((script.getD i.toNat z45).f4) d).1.fuse), .bool ((doesD ((script.getD i.toNat z45).f0) ((script.getD i.toNat z45).f1) ((script.getD i.toNat z45).f2) ((script.getD i.toNat z45).f3) ((script.getD i.toNat z45).f4) d).1.down)] 50, Chunk.disk w.heap.size gd7 S176 ((doesD ((script.getD i.toNat z45).f0) ((script.getD i.toNat z45).f1) ((script.getD i.toNat z45).f2) ((script.getD i.toNat z45).f3) ((script.getD i.toNat z45).f4) d).1), Chunk.view k93 S216 A214 files213.length c215 files213] := O258
     clear O258
     refine V2 H257 (want_yes H257 rfl rfl rfl rfl) (op_not rfl (H257.ev rfl)) ?_
     intro _ H263; clear H257
     refine V H263 (op_pick_f rfl (H263.ev rfl) (H263.ev rfl)) ?_
     intro _ H265; clear H263
     refine wpList_nil ?_
     refine gw_nx (hK239 _ _ ?_)
     refine gw_cond H265 rfl (fun hb266 => ?_) (fun hb266 => ?_)
     skip
     ·
      cases hb266
     refine wp_skip ?_
     refine gw_blk ?_
     refine gw_nx (hK86 _ _ ?_)
     refine wp_region_lit ?_
     refine V H265 (op_add rfl (H265.ev rfl) (ev_c _ _) (by omega)) ?_
     intro _ H268; clear H265
     refine V H268 (op_move rfl (H268.ev rfl)) ?_
     intro _ H270; clear H268
     refine wpList_nil ?_
     refine gw_nx ⟨_, ?_, i + 1, ((doesD ((script.getD i.toNat z45).f0) ((script.getD i.toNat z45).f1) ((script.getD i.toNat z45).f2) ((script.getD i.toNat z45).f3) ((script.getD i.toNat z45).f4) d).1), S176, files213, S216, A214, c215, (used + ((((script.getD i.toNat z45).f4.length) : Int) + 8)), (H270.pick (t := 30) rfl (H270.pick (t := 9) rfl (H270.pick (t := 2) rfl (H270.pick (t := 7) rfl (H270.pick (t := 8) rfl (H270.pick (t := 28) rfl (H270.pick (t := 29) rfl H270.nil))))))), O261.sel [2, 3, 1] (by decide), ?_, ?_, ?_, ?_, rfl⟩
     ·
      rw [hm79]; omega
     ·
      omega
     ·
      exact hJ2
     ·
      omega
     ·
      exact hd217
    ·
     have H271 := H168.subst_ (d := 42) (b := false) rfl hb169
     clear H168
     (try simp only [Bool.and_eq_true, Bool.or_eq_true, Bool.and_eq_false_iff, Bool.or_eq_false_iff, Bool.not_and, Bool.not_or, Bool.not_not, decide_eq_true_eq, decide_eq_false_iff_not, Bool.not_eq_true', Bool.not_eq_false', Bool.not_eq_true, Bool.not_eq_false, ne_eq, Decidable.not_not, Int.not_lt, Int.not_le, not_true_eq_false, not_false_eq_true, bne_iff_ne, beq_iff_eq, bne_eq_false_iff_eq, beq_eq_false_iff_ne] at hb169)
     refine gw_seq fun K272 hK272 => ?_
     refine wp_region_lit ?_
     refine V H271 (op_field (gwfld45_0 _ _) rfl (H271.ev rfl)) ?_
     intro _ H274; clear H271
     refine V H274 (op_load1 gwagg3 rfl (H274.ev rfl) (blk_at (O116.get 0 rfl) rfl)) ?_
     intro _ H276; clear H274
     refine V H276 (op_eqi rfl (H276.ev rfl) (ev_c _ _)) ?_
     intro _ H278; clear H276
     refine V H278 (op_assign rfl (H278.ev rfl)) ?_
     intro _ H280; clear H278
     refine wpList_nil ?_
     refine gw_nx (hK272 _ _ ?_)
     refine gw_cond H280 rfl (fun hb281 => ?_) (fun hb281 => ?_)
     ·
      have H282 := H280.subst_ (d := 70) (b := true) rfl hb281
      clear H280
      (try simp only [decide_eq_true_eq] at hb281)
      refine gw_seq fun K283 hK283 => ?_
      refine wp_region_lit ?_
      refine V H282 (op_move rfl (H282.ev rfl)) ?_
      intro _ H285; clear H282
      refine V H285 (op_field (gwfld45_3 _ _) rfl (H285.ev rfl)) ?_
      intro _ H287; clear H285
      refine V H287 (op_load1 gwagg3 rfl (H287.ev rfl) (blk_at (O116.get 0 rfl) rfl)) ?_
      intro _ H289; clear H287
      have O298 : Own w _ [(Chunk.all [Bk g106 [J ((script.getD i.toNat z45).f0), .string ((script.getD i.toNat z45).f1), .string ((script.getD i.toNat z45).f2), J ((script.getD i.toNat z45).f3), .slice A94 ((script.getD i.toNat z45).f4.length) c95, .slice A98 ((script.getD i.toNat z45).f5.length) c99] 45, Chunk.view k93 Sm Am files.length cm files, Bk g51 [.slice Am files.length cm, J d.most, J d.fuse, .bool d.down] 50]), Chunk.disk w.heap.size gd7 Sd d] := Own.bundle (A := [Bk g106 [J ((script.getD i.toNat z45).f0), .string ((script.getD i.toNat z45).f1), .string ((script.getD i.toNat z45).f2), J ((script.getD i.toNat z45).f3), .slice A94 ((script.getD i.toNat z45).f4.length) c95, .slice A98 ((script.getD i.toNat z45).f5.length) c99] 45, Chunk.view k93 Sm Am files.length cm files, Bk g51 [.slice Am files.length cm, J d.most, J d.fuse, .bool d.down] 50]) (L := [Chunk.disk w.heap.size gd7 Sd d]) (O116.sel [0, 2, 3, 1] (by decide))
      refine gw_call H289 (want_none rfl) rfl (by decide) (op_callL Try.func14 (by kernel_rfl) rfl rfl (ar_cons (H289.ev rfl) (ar_cons (H289.ev rfl) ar_nil))) (fail_calls w _ (Chunk.all [Bk g106 [J ((script.getD i.toNat z45).f0), .string ((script.getD i.toNat z45).f1), .string ((script.getD i.toNat z45).f2), J ((script.getD i.toNat z45).f3), .slice A94 ((script.getD i.toNat z45).f4.length) c95, .slice A98 ((script.getD i.toNat z45).f5.length) c99] 45, Chunk.view k93 Sm Am files.length cm files, Bk g51 [.slice Am files.length cm, J d.most, J d.fuse, .bool d.down] 50]) gd7 Sd d ((script.getD i.toNat z45).f3) (by exact O298)) ?_
      rintro e292 w293 ⟨rfl, S290, hb294⟩
      refine ⟨_, rfl, fun _ H296 => ?_⟩
      have O297 : Own w w293 [Bk g106 [J ((script.getD i.toNat z45).f0), .string ((script.getD i.toNat z45).f1), .string ((script.getD i.toNat z45).f2), J ((script.getD i.toNat z45).f3), .slice A94 ((script.getD i.toNat z45).f4.length) c95, .slice A98 ((script.getD i.toNat z45).f5.length) c99] 45, Chunk.view k93 Sm Am files.length cm files, Bk g51 [.slice Am files.length cm, J d.most, J d.fuse, .bool d.down] 50, Chunk.disk w.heap.size gd7 S290 ({ d with fuse := mx ((script.getD i.toNat z45).f3) 0 } : PD)] := Own.unbundle (A := [Bk g106 [J ((script.getD i.toNat z45).f0), .string ((script.getD i.toNat z45).f1), .string ((script.getD i.toNat z45).f2), J ((script.getD i.toNat z45).f3), .slice A94 ((script.getD i.toNat z45).f4.length) c95, .slice A98 ((script.getD i.toNat z45).f5.length) c99] 45, Chunk.view k93 Sm Am files.length cm files, Bk g51 [.slice Am files.length cm, J d.most, J d.fuse, .bool d.down] 50]) (L := [Chunk.disk w.heap.size gd7 S290 ({ d with fuse := mx ((script.getD i.toNat z45).f3) 0 } : PD)]) (hb294.sel [0, 1] (by decide))
      clear O298
      clear H289 O116 hb294
      have O300 : Own w w293 [Bk g106 [J ((script.getD i.toNat z45).f0), .string ((script.getD i.toNat z45).f1), .string ((script.getD i.toNat z45).f2), J ((script.getD i.toNat z45).f3), .slice A94 ((script.getD i.toNat z45).f4.length) c95, .slice A98 ((script.getD i.toNat z45).f5.length) c99] 45, Chunk.view k93 Sm Am files.length cm files, Bk g51 [.slice Am files.length cm, J d.most, J d.fuse, .bool d.down] 50, Chunk.disk w.heap.size gd7 S290 ({ d with fuse := mx ((script.getD i.toNat z45).f3) 0 } : PD)] := O297
      clear O297
      have hJ2 : JP ({ d with fuse := mx ((script.getD i.toNat z45).f3) 0 } : PD) (used + (((script.getD i.toNat z45).f4.length : Int) + 8)) := (hJ.fail (by omega)).more (by omega)
      refine wpList_nil ?_
      refine gw_nx (hK283 _ _ ?_)
      refine wp_region_lit ?_
      refine V H296 (op_field (gwfld45_3 _ _) rfl (H296.ev rfl)) ?_
      intro _ H302; clear H296
      refine V H302 (op_load1 gwagg3 rfl (H302.ev rfl) (blk_at (O300.get 0 rfl) rfl)) ?_
      intro _ H304; clear H302
      refine V H304 (op_max rfl (H304.ev rfl) (ev_c _ _)) ?_
      intro _ H306; clear H304
      refine V H306 (op_field (gwfld50_2 _ _) rfl (H306.ev rfl)) ?_
      intro _ H308; clear H306
      refine gw_set 2 H308 O300 rfl (want_none rfl) rfl (op_store1 gwsiz3 rfl (H308.ev rfl) (H308.ev rfl) rfl (blk_at (O300.get 2 rfl) rfl) (blkf (O300.get 2 rfl))) ?_
      intro _ w311 H310 O312; clear H308 O300
      have O313 : Own w w311 [Bk g106 [J ((script.getD i.toNat z45).f0), .string ((script.getD i.toNat z45).f1), .string ((script.getD i.toNat z45).f2), J ((script.getD i.toNat z45).f3), .slice A94 ((script.getD i.toNat z45).f4.length) c95, .slice A98 ((script.getD i.toNat z45).f5.length) c99] 45, Chunk.view k93 Sm Am files.length cm files, Bk g51 [.slice Am files.length cm, J d.most, J (mx ((script.getD i.toNat z45).f3) 0), .bool d.down] 50, Chunk.disk w.heap.size gd7 S290 ({ d with fuse := mx ((script.getD i.toNat z45).f3) 0 } : PD)] := O312
      clear O312
      refine wpList_nil ?_
      refine gw_blk ?_
      refine gw_nx (hK149 _ _ ?_)
      refine gw_seq fun K314 hK314 => ?_
      refine wp_region_lit ?_
      refine V H310 (op_move rfl (H310.ev rfl)) ?_
      intro _ H316; clear H310
      refine V H316 (op_move rfl (H316.ev rfl)) ?_
      intro _ H318; clear H316
      refine V H318 (op_nei rfl (H318.ev rfl) (H318.ev rfl)) ?_
      intro _ H320; clear H318
      have H321 := H320.lit (b := false) (by simp)
      clear H320
      refine V H321 (op_move rfl (H321.ev rfl)) ?_
      intro _ H323; clear H321
      refine V2 H323 (want_yes H323 rfl rfl rfl rfl) (op_move rfl (H323.ev rfl)) ?_
      intro _ H325; clear H323
      refine V2 H325 (want_yes H325 rfl rfl rfl rfl) (op_loadn gwagg50 gwsiz50 rfl (H325.ev rfl) (O313.get 2 rfl) rfl rfl) ?_
      intro _ H327; clear H325
      have O334 : Own w _ [(Chunk.all [Bk g106 [J ((script.getD i.toNat z45).f0), .string ((script.getD i.toNat z45).f1), .string ((script.getD i.toNat z45).f2), J ((script.getD i.toNat z45).f3), .slice A94 ((script.getD i.toNat z45).f4.length) c95, .slice A98 ((script.getD i.toNat z45).f5.length) c99] 45, Bk g51 [.slice Am files.length cm, J d.most, J (mx ((script.getD i.toNat z45).f3) 0), .bool d.down] 50]), Chunk.disk w.heap.size gd7 S290 ({ d with fuse := mx ((script.getD i.toNat z45).f3) 0 } : PD), Chunk.view k93 Sm Am files.length cm files] := Own.bundle (A := [Bk g106 [J ((script.getD i.toNat z45).f0), .string ((script.getD i.toNat z45).f1), .string ((script.getD i.toNat z45).f2), J ((script.getD i.toNat z45).f3), .slice A94 ((script.getD i.toNat z45).f4.length) c95, .slice A98 ((script.getD i.toNat z45).f5.length) c99] 45, Bk g51 [.slice Am files.length cm, J d.most, J (mx ((script.getD i.toNat z45).f3) 0), .bool d.down] 50]) (L := [Chunk.disk w.heap.size gd7 S290 ({ d with fuse := mx ((script.getD i.toNat z45).f3) 0 } : PD), Chunk.view k93 Sm Am files.length cm files]) (O313.sel [0, 2, 3, 1] (by decide))
      refine gw_call H327 (want_yes H327 rfl rfl rfl rfl) rfl (by decide) (op_callL Try.func29 (by kernel_rfl) rfl rfl (ar_cons (H327.ev rfl) (ar_cons (H327.ev rfl) ar_nil))) ((by have hJ_ := hJ2; have hl1_ := hJ_.len; have hl2_ := hJ_.by_; rcases Bool.eq_false_or_eq_true (({ d with fuse := mx ((script.getD i.toNat z45).f3) 0 } : PD).down) with hup_ | hup_; (· exact same_down w _ (Chunk.all [Bk g106 [J ((script.getD i.toNat z45).f0), .string ((script.getD i.toNat z45).f1), .string ((script.getD i.toNat z45).f2), J ((script.getD i.toNat z45).f3), .slice A94 ((script.getD i.toNat z45).f4.length) c95, .slice A98 ((script.getD i.toNat z45).f5.length) c99] 45, Bk g51 [.slice Am files.length cm, J d.most, J (mx ((script.getD i.toNat z45).f3) 0), .bool d.down] 50]) gd7 S290 ({ d with fuse := mx ((script.getD i.toNat z45).f3) 0 } : PD) Sm Am cm files hd hJ_.wf (by omega) (by omega) hup_ (by exact O334)); (· exact same_up w _ (Chunk.all [Bk g106 [J ((script.getD i.toNat z45).f0), .string ((script.getD i.toNat z45).f1), .string ((script.getD i.toNat z45).f2), J ((script.getD i.toNat z45).f3), .slice A94 ((script.getD i.toNat z45).f4.length) c95, .slice A98 ((script.getD i.toNat z45).f5.length) c99] 45, Bk g51 [.slice Am files.length cm, J d.most, J (mx ((script.getD i.toNat z45).f3) 0), .bool d.down] 50]) gd7 S290 ({ d with fuse := mx ((script.getD i.toNat z45).f3) 0 } : PD) Sm Am cm files hd hJ_.wf (by omega) (by omega) hup_ (by exact O334)))) ?_
      rintro e328 w329 ⟨rfl, hb330⟩
      refine ⟨_, rfl, fun _ H332 => ?_⟩
      have O333 : Own w w329 [Bk g106 [J ((script.getD i.toNat z45).f0), .string ((script.getD i.toNat z45).f1), .string ((script.getD i.toNat z45).f2), J ((script.getD i.toNat z45).f3), .slice A94 ((script.getD i.toNat z45).f4.length) c95, .slice A98 ((script.getD i.toNat z45).f5.length) c99] 45, Bk g51 [.slice Am files.length cm, J d.most, J (mx ((script.getD i.toNat z45).f3) 0), .bool d.down] 50, Chunk.disk w.heap.size gd7 S290 ({ d with fuse := mx ((script.getD i.toNat z45).f3) 0 } : PD), Chunk.view k93 Sm Am files.length cm files] := Own.unbundle (A := [Bk g106 [J ((script.getD i.toNat z45).f0), .string ((script.getD i.toNat z45).f1), .string ((script.getD i.toNat z45).f2), J ((script.getD i.toNat z45).f3), .slice A94 ((script.getD i.toNat z45).f4.length) c95, .slice A98 ((script.getD i.toNat z45).f5.length) c99] 45, Bk g51 [.slice Am files.length cm, J d.most, J (mx ((script.getD i.toNat z45).f3) 0), .bool d.down] 50]) (L := [Chunk.disk w.heap.size gd7 S290 ({ d with fuse := mx ((script.getD i.toNat z45).f3) 0 } : PD), Chunk.view k93 Sm Am files.length cm files]) (hb330.sel [0, 1, 2] (by decide))
      clear O334
      clear H327 O313 hb330
      have O336 : Own w w329 [Bk g106 [J ((script.getD i.toNat z45).f0), .string ((script.getD i.toNat z45).f1), .string ((script.getD i.toNat z45).f2), J ((script.getD i.toNat z45).f3), .slice A94 ((script.getD i.toNat z45).f4.length) c95, .slice A98 ((script.getD i.toNat z45).f5.length) c99] 45, Bk g51 [.slice Am files.length cm, J d.most, J (mx ((script.getD i.toNat z45).f3) 0), .bool d.down] 50, Chunk.disk w.heap.size gd7 S290 ({ d with fuse := mx ((script.getD i.toNat z45).f3) 0 } : PD), Chunk.view k93 Sm Am files.length cm files] := O333
      clear O333
      refine V2 H332 (want_yes H332 rfl rfl rfl rfl) (op_not rfl (H332.ev rfl)) ?_
      intro _ H338; clear H332
      refine V H338 (op_pick_f rfl (H338.ev rfl) (H338.ev rfl)) ?_
      intro _ H340; clear H338
      refine wpList_nil ?_
      refine gw_nx (hK314 _ _ ?_)
      refine gw_cond H340 rfl (fun hb341 => ?_) (fun hb341 => ?_)
      skip
      ·
       cases hb341
      refine wp_skip ?_
      refine gw_blk ?_
      refine gw_nx (hK86 _ _ ?_)
      refine wp_region_lit ?_
      refine V H340 (op_add rfl (H340.ev rfl) (ev_c _ _) (by omega)) ?_
      intro _ H343; clear H340
      refine V H343 (op_move rfl (H343.ev rfl)) ?_
      intro _ H345; clear H343
      refine wpList_nil ?_
      refine gw_nx ⟨_, ?_, i + 1, ({ d with fuse := mx ((script.getD i.toNat z45).f3) 0 } : PD), S290, files, Sm, Am, cm, (used + ((((script.getD i.toNat z45).f4.length) : Int) + 8)), (H345.pick (t := 30) rfl (H345.pick (t := 9) rfl (H345.pick (t := 2) rfl (H345.pick (t := 7) rfl (H345.pick (t := 8) rfl (H345.pick (t := 28) rfl (H345.pick (t := 29) rfl H345.nil))))))), O336.sel [2, 3, 1] (by decide), ?_, ?_, ?_, ?_, rfl⟩
      ·
       rw [hm79]; omega
      ·
       omega
      ·
       exact hJ2
      ·
       omega
      ·
       exact hd
     ·
      have H346 := H280.subst_ (d := 70) (b := false) rfl hb281
      clear H280
      (try simp only [decide_eq_false_iff_not] at hb281)
      refine gw_seq fun K347 hK347 => ?_
      refine wp_region_lit ?_
      refine V H346 (op_field (gwfld45_0 _ _) rfl (H346.ev rfl)) ?_
      intro _ H349; clear H346
      refine V H349 (op_load1 gwagg3 rfl (H349.ev rfl) (blk_at (O116.get 0 rfl) rfl)) ?_
      intro _ H351; clear H349
      refine V H351 (op_eqi rfl (H351.ev rfl) (ev_c _ _)) ?_
      intro _ H353; clear H351
      refine V H353 (op_assign rfl (H353.ev rfl)) ?_
      intro _ H355; clear H353
      refine wpList_nil ?_
      refine gw_nx (hK347 _ _ ?_)
      refine gw_cond H355 rfl (fun hb356 => ?_) (fun hb356 => ?_)
      ·
       have H357 := H355.subst_ (d := 82) (b := true) rfl hb356
       clear H355
       (try simp only [decide_eq_true_eq] at hb356)
       refine gw_seq fun K358 hK358 => ?_
       refine wp_region_lit ?_
       refine V H357 (op_move rfl (H357.ev rfl)) ?_
       intro _ H360; clear H357
       refine V H360 (op_field (gwfld45_5 _ _) rfl (H360.ev rfl)) ?_
       intro _ H362; clear H360
       refine V H362 (op_load1 gwagg32 rfl (H362.ev rfl) (blk_at (O116.get 0 rfl) rfl)) ?_
       intro _ H364; clear H362
       have O373 : Own w _ [(Chunk.all [Bk g106 [J ((script.getD i.toNat z45).f0), .string ((script.getD i.toNat z45).f1), .string ((script.getD i.toNat z45).f2), J ((script.getD i.toNat z45).f3), .slice A94 ((script.getD i.toNat z45).f4.length) c95, .slice A98 ((script.getD i.toNat z45).f5.length) c99] 45, Chunk.view k93 Sm Am files.length cm files, Bk g51 [.slice Am files.length cm, J d.most, J d.fuse, .bool d.down] 50]), Chunk.disk w.heap.size gd7 Sd d] := Own.bundle (A := [Bk g106 [J ((script.getD i.toNat z45).f0), .string ((script.getD i.toNat z45).f1), .string ((script.getD i.toNat z45).f2), J ((script.getD i.toNat z45).f3), .slice A94 ((script.getD i.toNat z45).f4.length) c95, .slice A98 ((script.getD i.toNat z45).f5.length) c99] 45, Chunk.view k93 Sm Am files.length cm files, Bk g51 [.slice Am files.length cm, J d.most, J d.fuse, .bool d.down] 50]) (L := [Chunk.disk w.heap.size gd7 Sd d]) (O116.sel [0, 2, 3, 1] (by decide))
       refine gw_call H364 (want_none rfl) rfl (by decide) (op_callL Try.func17 (by kernel_rfl) rfl rfl (ar_cons (H364.ev rfl) (ar_cons (H364.ev rfl) ar_nil))) (crash_calls w _ (Chunk.all [Bk g106 [J ((script.getD i.toNat z45).f0), .string ((script.getD i.toNat z45).f1), .string ((script.getD i.toNat z45).f2), J ((script.getD i.toNat z45).f3), .slice A94 ((script.getD i.toNat z45).f4.length) c95, .slice A98 ((script.getD i.toNat z45).f5.length) c99] 45, Chunk.view k93 Sm Am files.length cm files, Bk g51 [.slice Am files.length cm, J d.most, J d.fuse, .bool d.down] 50]) gd7 Sd d A98 c99 ((script.getD i.toNat z45).f5) (fun w_ h_ => Kd.C_below hC101 h_.below) hl100 hJ.wf (by omega) (by exact O373)) ?_
       rintro e367 w368 ⟨rfl, S365, hb369⟩
       refine ⟨_, rfl, fun _ H371 => ?_⟩
       have O372 : Own w w368 [Bk g106 [J ((script.getD i.toNat z45).f0), .string ((script.getD i.toNat z45).f1), .string ((script.getD i.toNat z45).f2), J ((script.getD i.toNat z45).f3), .slice A94 ((script.getD i.toNat z45).f4.length) c95, .slice A98 ((script.getD i.toNat z45).f5.length) c99] 45, Chunk.view k93 Sm Am files.length cm files, Bk g51 [.slice Am files.length cm, J d.most, J d.fuse, .bool d.down] 50, Chunk.disk w.heap.size gd7 S365 (crashD ((script.getD i.toNat z45).f5) d)] := Own.unbundle (A := [Bk g106 [J ((script.getD i.toNat z45).f0), .string ((script.getD i.toNat z45).f1), .string ((script.getD i.toNat z45).f2), J ((script.getD i.toNat z45).f3), .slice A94 ((script.getD i.toNat z45).f4.length) c95, .slice A98 ((script.getD i.toNat z45).f5.length) c99] 45, Chunk.view k93 Sm Am files.length cm files, Bk g51 [.slice Am files.length cm, J d.most, J d.fuse, .bool d.down] 50]) (L := [Chunk.disk w.heap.size gd7 S365 (crashD ((script.getD i.toNat z45).f5) d)]) (hb369.sel [0, 1] (by decide))
       clear O373
       clear H364 O116 hb369
       have O375 : Own w w368 [Bk g106 [J ((script.getD i.toNat z45).f0), .string ((script.getD i.toNat z45).f1), .string ((script.getD i.toNat z45).f2), J ((script.getD i.toNat z45).f3), .slice A94 ((script.getD i.toNat z45).f4.length) c95, .slice A98 ((script.getD i.toNat z45).f5.length) c99] 45, Chunk.view k93 Sm Am files.length cm files, Bk g51 [.slice Am files.length cm, J d.most, J d.fuse, .bool d.down] 50, Chunk.disk w.heap.size gd7 S365 (crashD ((script.getD i.toNat z45).f5) d)] := O372
       clear O372
       have hJ2 : JP (crashD ((script.getD i.toNat z45).f5) d) (used + (((script.getD i.toNat z45).f4.length : Int) + 8)) := hJ.crash.more (by omega)
       refine wpList_nil ?_
       refine gw_nx (hK358 _ _ ?_)
       refine wp_region_lit ?_
       refine V H371 (op_loadn gwagg50 gwsiz50 rfl (H371.ev rfl) (O375.get 2 rfl) rfl rfl) ?_
       intro _ H377; clear H371
       refine V H377 (op_field (gwfld45_5 _ _) rfl (H377.ev rfl)) ?_
       intro _ H379; clear H377
       refine V H379 (op_load1 gwagg32 rfl (H379.ev rfl) (blk_at (O375.get 0 rfl) rfl)) ?_
       intro _ H381; clear H379
       refine gw_call H381 (want_none rfl) rfl (by decide) (op_callL Try.func28 (by kernel_rfl) rfl rfl (ar_cons (H381.ev rfl) (ar_cons (H381.ev rfl) ar_nil))) (crash_own Am cm files d A98 c99 ((script.getD i.toNat z45).f5) 1 O375 rfl (by omega) hd hJ.wf (by omega) (Kd.C_below hC101 O375.below) hl100) ?_
       rintro e387 w388 ⟨files382, A383, c384, S385, hd386, rfl, hb389⟩
       refine ⟨_, rfl, fun _ H391 => ?_⟩
       have O392 := O375.calls 1 rfl hb389
       clear H381 O375 hb389
       have O394 : Own w w388 [Bk g106 [J ((script.getD i.toNat z45).f0), .string ((script.getD i.toNat z45).f1), .string ((script.getD i.toNat z45).f2), J ((script.getD i.toNat z45).f3), .slice A94 ((script.getD i.toNat z45).f4.length) c95, .slice A98 ((script.getD i.toNat z45).f5.length) c99] 45, Chunk.view k93 S385 A383 files382.length c384 files382, Bk g51 [.slice Am files.length cm, J d.most, J d.fuse, .bool d.down] 50, Chunk.disk w.heap.size gd7 S365 (crashD ((script.getD i.toNat z45).f5) d)] := O392
       clear O392
       refine gw_setn 2 H391 O394 rfl (want_none rfl) rfl (op_storen gwsiz50 rfl (H391.ev rfl) (H391.ev rfl) (O394.get 2 rfl) rfl (by simp) (by simp [Value.oneCell'])) ?_
       intro _ w397 H396 O398; clear H391 O394
       have O399 : Own w w397 [Bk g106 [J ((script.getD i.toNat z45).f0), .string ((script.getD i.toNat z45).f1), .string ((script.getD i.toNat z45).f2), J ((script.getD i.toNat z45).f3), .slice A94 ((script.getD i.toNat z45).f4.length) c95, .slice A98 ((script.getD i.toNat z45).f5.length) c99] 45, Chunk.view k93 S385 A383 files382.length c384 files382, Bk g51 [.slice A383 files382.length c384, J ((crashD ((script.getD i.toNat z45).f5) d).most), J ((crashD ((script.getD i.toNat z45).f5) d).fuse), .bool ((crashD ((script.getD i.toNat z45).f5) d).down)] 50, Chunk.disk w.heap.size gd7 S365 (crashD ((script.getD i.toNat z45).f5) d)] := O398
       clear O398
       refine wpList_nil ?_
       refine gw_blk ?_
       refine gw_nx (hK149 _ _ ?_)
       refine gw_seq fun K400 hK400 => ?_
       refine wp_region_lit ?_
       refine V H396 (op_move rfl (H396.ev rfl)) ?_
       intro _ H402; clear H396
       refine V H402 (op_move rfl (H402.ev rfl)) ?_
       intro _ H404; clear H402
       refine V H404 (op_nei rfl (H404.ev rfl) (H404.ev rfl)) ?_
       intro _ H406; clear H404
       have H407 := H406.lit (b := false) (by simp)
       clear H406
       refine V H407 (op_move rfl (H407.ev rfl)) ?_
       intro _ H409; clear H407
       refine V2 H409 (want_yes H409 rfl rfl rfl rfl) (op_move rfl (H409.ev rfl)) ?_
       intro _ H411; clear H409
       refine V2 H411 (want_yes H411 rfl rfl rfl rfl) (op_loadn gwagg50 gwsiz50 rfl (H411.ev rfl) (O399.get 2 rfl) rfl rfl) ?_
       intro _ H413; clear H411
       have O420 : Own w _ [(Chunk.all [Bk g106 [J ((script.getD i.toNat z45).f0), .string ((script.getD i.toNat z45).f1), .string ((script.getD i.toNat z45).f2), J ((script.getD i.toNat z45).f3), .slice A94 ((script.getD i.toNat z45).f4.length) c95, .slice A98 ((script.getD i.toNat z45).f5.length) c99] 45, Bk g51 [.slice A383 files382.length c384, J ((crashD ((script.getD i.toNat z45).f5) d).most), J ((crashD ((script.getD i.toNat z45).f5) d).fuse), .bool ((crashD ((script.getD i.toNat z45).f5) d).down)] 50]), Chunk.disk w.heap.size gd7 S365 (crashD ((script.getD i.toNat z45).f5) d), Chunk.view k93 S385 A383 files382.length c384 files382] := Own.bundle (A := [Bk g106 [J ((script.getD i.toNat z45).f0), .string ((script.getD i.toNat z45).f1), .string ((script.getD i.toNat z45).f2), J ((script.getD i.toNat z45).f3), .slice A94 ((script.getD i.toNat z45).f4.length) c95, .slice A98 ((script.getD i.toNat z45).f5.length) c99] 45, Bk g51 [.slice A383 files382.length c384, J ((crashD ((script.getD i.toNat z45).f5) d).most), J ((crashD ((script.getD i.toNat z45).f5) d).fuse), .bool ((crashD ((script.getD i.toNat z45).f5) d).down)] 50]) (L := [Chunk.disk w.heap.size gd7 S365 (crashD ((script.getD i.toNat z45).f5) d), Chunk.view k93 S385 A383 files382.length c384 files382]) (O399.sel [0, 2, 3, 1] (by decide))
       refine gw_call H413 (want_yes H413 rfl rfl rfl rfl) rfl (by decide) (op_callL Try.func29 (by kernel_rfl) rfl rfl (ar_cons (H413.ev rfl) (ar_cons (H413.ev rfl) ar_nil))) ((by have hJ_ := hJ2; have hl1_ := hJ_.len; have hl2_ := hJ_.by_; rcases Bool.eq_false_or_eq_true ((crashD ((script.getD i.toNat z45).f5) d).down) with hup_ | hup_; (· exact same_down w _ (Chunk.all [Bk g106 [J ((script.getD i.toNat z45).f0), .string ((script.getD i.toNat z45).f1), .string ((script.getD i.toNat z45).f2), J ((script.getD i.toNat z45).f3), .slice A94 ((script.getD i.toNat z45).f4.length) c95, .slice A98 ((script.getD i.toNat z45).f5.length) c99] 45, Bk g51 [.slice A383 files382.length c384, J ((crashD ((script.getD i.toNat z45).f5) d).most), J ((crashD ((script.getD i.toNat z45).f5) d).fuse), .bool ((crashD ((script.getD i.toNat z45).f5) d).down)] 50]) gd7 S365 (crashD ((script.getD i.toNat z45).f5) d) S385 A383 c384 files382 hd386 hJ_.wf (by omega) (by omega) hup_ (by exact O420)); (· exact same_up w _ (Chunk.all [Bk g106 [J ((script.getD i.toNat z45).f0), .string ((script.getD i.toNat z45).f1), .string ((script.getD i.toNat z45).f2), J ((script.getD i.toNat z45).f3), .slice A94 ((script.getD i.toNat z45).f4.length) c95, .slice A98 ((script.getD i.toNat z45).f5.length) c99] 45, Bk g51 [.slice A383 files382.length c384, J ((crashD ((script.getD i.toNat z45).f5) d).most), J ((crashD ((script.getD i.toNat z45).f5) d).fuse), .bool ((crashD ((script.getD i.toNat z45).f5) d).down)] 50]) gd7 S365 (crashD ((script.getD i.toNat z45).f5) d) S385 A383 c384 files382 hd386 hJ_.wf (by omega) (by omega) hup_ (by exact O420)))) ?_
       rintro e414 w415 ⟨rfl, hb416⟩
       refine ⟨_, rfl, fun _ H418 => ?_⟩
       have O419 : Own w w415 [Bk g106 [J ((script.getD i.toNat z45).f0), .string ((script.getD i.toNat z45).f1), .string ((script.getD i.toNat z45).f2), J ((script.getD i.toNat z45).f3), .slice A94 ((script.getD i.toNat z45).f4.length) c95, .slice A98 ((script.getD i.toNat z45).f5.length) c99] 45, Bk g51 [.slice A383 files382.length c384, J ((crashD ((script.getD i.toNat z45).f5) d).most), J ((crashD ((script.getD i.toNat z45).f5) d).fuse), .bool ((crashD ((script.getD i.toNat z45).f5) d).down)] 50, Chunk.disk w.heap.size gd7 S365 (crashD ((script.getD i.toNat z45).f5) d), Chunk.view k93 S385 A383 files382.length c384 files382] := Own.unbundle (A := [Bk g106 [J ((script.getD i.toNat z45).f0), .string ((script.getD i.toNat z45).f1), .string ((script.getD i.toNat z45).f2), J ((script.getD i.toNat z45).f3), .slice A94 ((script.getD i.toNat z45).f4.length) c95, .slice A98 ((script.getD i.toNat z45).f5.length) c99] 45, Bk g51 [.slice A383 files382.length c384, J ((crashD ((script.getD i.toNat z45).f5) d).most), J ((crashD ((script.getD i.toNat z45).f5) d).fuse), .bool ((crashD ((script.getD i.toNat z45).f5) d).down)] 50]) (L := [Chunk.disk w.heap.size gd7 S365 (crashD ((script.getD i.toNat z45).f5) d), Chunk.view k93 S385 A383 files382.length c384 files382]) (hb416.sel [0, 1, 2] (by decide))
       clear O420
       clear H413 O399 hb416
       have O422 : Own w w415 [Bk g106 [J ((script.getD i.toNat z45).f0), .string ((script.getD i.toNat z45).f1), .string ((script.getD i.toNat z45).f2), J ((script.getD i.toNat z45).f3), .slice A94 ((script.getD i.toNat z45).f4.length) c95, .slice A98 ((script.getD i.toNat z45).f5.length) c99] 45, Bk g51 [.slice A383 files382.length c384, J ((crashD ((script.getD i.toNat z45).f5) d).most), J ((crashD ((script.getD i.toNat z45).f5) d).fuse), .bool ((crashD ((script.getD i.toNat z45).f5) d).down)] 50, Chunk.disk w.heap.size gd7 S365 (crashD ((script.getD i.toNat z45).f5) d), Chunk.view k93 S385 A383 files382.length c384 files382] := O419
       clear O419
       refine V2 H418 (want_yes H418 rfl rfl rfl rfl) (op_not rfl (H418.ev rfl)) ?_
       intro _ H424; clear H418
       refine V H424 (op_pick_f rfl (H424.ev rfl) (H424.ev rfl)) ?_
       intro _ H426; clear H424
       refine wpList_nil ?_
       refine gw_nx (hK400 _ _ ?_)
       refine gw_cond H426 rfl (fun hb427 => ?_) (fun hb427 => ?_)
       skip
       ·
        cases hb427
       refine wp_skip ?_
       refine gw_blk ?_
       refine gw_nx (hK86 _ _ ?_)
       refine wp_region_lit ?_
       refine V H426 (op_add rfl (H426.ev rfl) (ev_c _ _) (by omega)) ?_
       intro _ H429; clear H426
       refine V H429 (op_move rfl (H429.ev rfl)) ?_
       intro _ H431; clear H429
       refine wpList_nil ?_
       refine gw_nx ⟨_, ?_, i + 1, (crashD ((script.getD i.toNat z45).f5) d), S365, files382, S385, A383, c384, (used + ((((script.getD i.toNat z45).f4.length) : Int) + 8)), (H431.pick (t := 30) rfl (H431.pick (t := 9) rfl (H431.pick (t := 2) rfl (H431.pick (t := 7) rfl (H431.pick (t := 8) rfl (H431.pick (t := 28) rfl (H431.pick (t := 29) rfl H431.nil))))))), O422.sel [2, 3, 1] (by decide), ?_, ?_, ?_, ?_, rfl⟩
       ·
        rw [hm79]; omega
       ·
        omega
       ·
        exact hJ2
       ·
        omega
       ·
        exact hd386
      ·
       have H432 := H355.subst_ (d := 82) (b := false) rfl hb356
       clear H355
       (try simp only [decide_eq_false_iff_not] at hb356)
       refine wp_skip ?_
       refine gw_blk ?_
       refine gw_nx (hK149 _ _ ?_)
       refine gw_seq fun K433 hK433 => ?_
       refine wp_region_lit ?_
       refine V H432 (op_move rfl (H432.ev rfl)) ?_
       intro _ H435; clear H432
       refine V H435 (op_move rfl (H435.ev rfl)) ?_
       intro _ H437; clear H435
       refine V H437 (op_nei rfl (H437.ev rfl) (H437.ev rfl)) ?_
       intro _ H439; clear H437
       have H440 := H439.lit (b := false) (by simp)
       clear H439
       refine V H440 (op_move rfl (H440.ev rfl)) ?_
       intro _ H442; clear H440
       refine V2 H442 (want_yes H442 rfl rfl rfl rfl) (op_move rfl (H442.ev rfl)) ?_
       intro _ H444; clear H442
       refine V2 H444 (want_yes H444 rfl rfl rfl rfl) (op_loadn gwagg50 gwsiz50 rfl (H444.ev rfl) (O116.get 3 rfl) rfl rfl) ?_
       intro _ H446; clear H444
       have O453 : Own w _ [(Chunk.all [Bk g106 [J ((script.getD i.toNat z45).f0), .string ((script.getD i.toNat z45).f1), .string ((script.getD i.toNat z45).f2), J ((script.getD i.toNat z45).f3), .slice A94 ((script.getD i.toNat z45).f4.length) c95, .slice A98 ((script.getD i.toNat z45).f5.length) c99] 45, Bk g51 [.slice Am files.length cm, J d.most, J d.fuse, .bool d.down] 50]), Chunk.disk w.heap.size gd7 Sd d, Chunk.view k93 Sm Am files.length cm files] := Own.bundle (A := [Bk g106 [J ((script.getD i.toNat z45).f0), .string ((script.getD i.toNat z45).f1), .string ((script.getD i.toNat z45).f2), J ((script.getD i.toNat z45).f3), .slice A94 ((script.getD i.toNat z45).f4.length) c95, .slice A98 ((script.getD i.toNat z45).f5.length) c99] 45, Bk g51 [.slice Am files.length cm, J d.most, J d.fuse, .bool d.down] 50]) (L := [Chunk.disk w.heap.size gd7 Sd d, Chunk.view k93 Sm Am files.length cm files]) (O116.sel [0, 3, 1, 2] (by decide))
       refine gw_call H446 (want_yes H446 rfl rfl rfl rfl) rfl (by decide) (op_callL Try.func29 (by kernel_rfl) rfl rfl (ar_cons (H446.ev rfl) (ar_cons (H446.ev rfl) ar_nil))) ((by have hJ_ := hJm; have hl1_ := hJ_.len; have hl2_ := hJ_.by_; rcases Bool.eq_false_or_eq_true (d.down) with hup_ | hup_; (· exact same_down w _ (Chunk.all [Bk g106 [J ((script.getD i.toNat z45).f0), .string ((script.getD i.toNat z45).f1), .string ((script.getD i.toNat z45).f2), J ((script.getD i.toNat z45).f3), .slice A94 ((script.getD i.toNat z45).f4.length) c95, .slice A98 ((script.getD i.toNat z45).f5.length) c99] 45, Bk g51 [.slice Am files.length cm, J d.most, J d.fuse, .bool d.down] 50]) gd7 Sd d Sm Am cm files hd hJ_.wf (by omega) (by omega) hup_ (by exact O453)); (· exact same_up w _ (Chunk.all [Bk g106 [J ((script.getD i.toNat z45).f0), .string ((script.getD i.toNat z45).f1), .string ((script.getD i.toNat z45).f2), J ((script.getD i.toNat z45).f3), .slice A94 ((script.getD i.toNat z45).f4.length) c95, .slice A98 ((script.getD i.toNat z45).f5.length) c99] 45, Bk g51 [.slice Am files.length cm, J d.most, J d.fuse, .bool d.down] 50]) gd7 Sd d Sm Am cm files hd hJ_.wf (by omega) (by omega) hup_ (by exact O453)))) ?_
       rintro e447 w448 ⟨rfl, hb449⟩
       refine ⟨_, rfl, fun _ H451 => ?_⟩
       have O452 : Own w w448 [Bk g106 [J ((script.getD i.toNat z45).f0), .string ((script.getD i.toNat z45).f1), .string ((script.getD i.toNat z45).f2), J ((script.getD i.toNat z45).f3), .slice A94 ((script.getD i.toNat z45).f4.length) c95, .slice A98 ((script.getD i.toNat z45).f5.length) c99] 45, Bk g51 [.slice Am files.length cm, J d.most, J d.fuse, .bool d.down] 50, Chunk.disk w.heap.size gd7 Sd d, Chunk.view k93 Sm Am files.length cm files] := Own.unbundle (A := [Bk g106 [J ((script.getD i.toNat z45).f0), .string ((script.getD i.toNat z45).f1), .string ((script.getD i.toNat z45).f2), J ((script.getD i.toNat z45).f3), .slice A94 ((script.getD i.toNat z45).f4.length) c95, .slice A98 ((script.getD i.toNat z45).f5.length) c99] 45, Bk g51 [.slice Am files.length cm, J d.most, J d.fuse, .bool d.down] 50]) (L := [Chunk.disk w.heap.size gd7 Sd d, Chunk.view k93 Sm Am files.length cm files]) (hb449.sel [0, 1, 2] (by decide))
       clear O453
       clear H446 O116 hb449
       have O455 : Own w w448 [Bk g106 [J ((script.getD i.toNat z45).f0), .string ((script.getD i.toNat z45).f1), .string ((script.getD i.toNat z45).f2), J ((script.getD i.toNat z45).f3), .slice A94 ((script.getD i.toNat z45).f4.length) c95, .slice A98 ((script.getD i.toNat z45).f5.length) c99] 45, Bk g51 [.slice Am files.length cm, J d.most, J d.fuse, .bool d.down] 50, Chunk.disk w.heap.size gd7 Sd d, Chunk.view k93 Sm Am files.length cm files] := O452
       clear O452
       refine V2 H451 (want_yes H451 rfl rfl rfl rfl) (op_not rfl (H451.ev rfl)) ?_
       intro _ H457; clear H451
       refine V H457 (op_pick_f rfl (H457.ev rfl) (H457.ev rfl)) ?_
       intro _ H459; clear H457
       refine wpList_nil ?_
       refine gw_nx (hK433 _ _ ?_)
       refine gw_cond H459 rfl (fun hb460 => ?_) (fun hb460 => ?_)
       skip
       ·
        cases hb460
       refine wp_skip ?_
       refine gw_blk ?_
       refine gw_nx (hK86 _ _ ?_)
       refine wp_region_lit ?_
       refine V H459 (op_add rfl (H459.ev rfl) (ev_c _ _) (by omega)) ?_
       intro _ H462; clear H459
       refine V H462 (op_move rfl (H462.ev rfl)) ?_
       intro _ H464; clear H462
       refine wpList_nil ?_
       refine gw_nx ⟨_, ?_, i + 1, d, Sd, files, Sm, Am, cm, (used + ((((script.getD i.toNat z45).f4.length) : Int) + 8)), (H464.pick (t := 30) rfl (H464.pick (t := 9) rfl (H464.pick (t := 2) rfl (H464.pick (t := 7) rfl (H464.pick (t := 8) rfl (H464.pick (t := 28) rfl (H464.pick (t := 29) rfl H464.nil))))))), O455.sel [2, 3, 1] (by decide), ?_, ?_, ?_, ?_, rfl⟩
       ·
        rw [hm79]; omega
       ·
        omega
       ·
        exact hJm
       ·
        omega
       ·
        exact hd
  ·
   have H465 := H82.subst_ (d := 31) (b := false) rfl hb84
   clear H82
   (try simp only [decide_eq_false_iff_not, Int.not_lt] at hb84)
   refine wp_exit ?_
   refine gw_thx ?_
   refine gw_thx ?_
   refine gw_in ?_
   refine gw_nx (hK65 _ _ ?_)
   refine gw_seq fun K466 hK466 => ?_
   refine wp_region_lit ?_
   refine V H465 (op_move rfl (H465.ev rfl)) ?_
   intro _ H468; clear H465
   refine V H468 (op_move rfl (H468.ev rfl)) ?_
   intro _ H470; clear H468
   refine gw_call H470 (want_none rfl) rfl (by decide) (op_callL Try.func18 (by kernel_rfl) rfl rfl (ar_cons (H470.ev rfl) (ar_cons (H470.ev rfl) ar_nil))) (read_calls w.heap.size gd7 Sd d name _ (by exact O78.get 0 rfl) hnm hJ.wf (by omega)) ?_
   rintro e474 w475 ⟨A471, c472, S473, rfl, hb476⟩
   refine ⟨_, rfl, fun _ H478 => ?_⟩
   have O479 := O78.fresh hb476
   have hbel480 := O78.below
   clear H470 O78 hb476
   have O481 := O479.lowrow 0 rfl (base' := w.heap.size) (Below.size hbel480)
   have O482 : Own w w475 [Chunk.row (Kd.int .u8) 5 w.heap.size S473 (.slice A471 (((readD name d).1).length) c472) ((readD name d).1), Chunk.disk w.heap.size gd7 Sd d, Chunk.view k93 Sm Am files.length cm files, Bk g51 [.slice Am files.length cm, J d.most, J d.fuse, .bool d.down] 50] := O481
   clear O481
   refine V H478 (op_move rfl (H478.ev rfl)) ?_
   intro _ H484; clear H478
   refine V H484 (op_extract rfl (H484.ev rfl) rfl) ?_
   intro _ H486; clear H484
   refine V H486 (op_extract rfl (H486.ev rfl) rfl) ?_
   intro _ H488; clear H486
   refine V H488 (op_assign rfl (H488.ev rfl)) ?_
   intro _ H490; clear H488
   refine V H490 (op_assign rfl (H490.ev rfl)) ?_
   intro _ H492; clear H490
   refine wpList_nil ?_
   refine gw_nx (hK466 _ _ ?_)
   refine gw_seq fun K493 hK493 => ?_
   refine wp_region_lit ?_
   refine V H492 (op_loadn gwagg50 gwsiz50 rfl (H492.ev rfl) (O482.get 3 rfl) rfl rfl) ?_
   intro _ H495; clear H492
   refine V H495 (op_move rfl (H495.ev rfl)) ?_
   intro _ H497; clear H495
   refine gw_call H497 (want_none rfl) rfl (by decide) (op_callL Try.func30 (by kernel_rfl) rfl rfl (ar_cons (H497.ev rfl) (ar_cons (H497.ev rfl) ar_nil))) (read_ref Am cm files d name _ (view_C (O482.get 2 rfl)) (view_le (O482.get 2 rfl)) (by omega) hd) ?_
   rintro e502 w503 ⟨A498, c499, rfl, hC500, hc501, hb504⟩
   refine ⟨_, rfl, fun _ H506 => ?_⟩
   have O507 := O482.after hb504
   clear H497 O482 hb504
   refine V H506 (op_move rfl (H506.ev rfl)) ?_
   intro _ H510; clear H506
   refine V H510 (op_extract rfl (H510.ev rfl) rfl) ?_
   intro _ H512; clear H510
   refine V H512 (op_extract rfl (H512.ev rfl) rfl) ?_
   intro _ H514; clear H512
   refine V H514 (op_assign rfl (H514.ev rfl)) ?_
   intro _ H516; clear H514
   refine V H516 (op_assign rfl (H516.ev rfl)) ?_
   intro _ H518; clear H516
   refine wpList_nil ?_
   refine gw_nx (hK493 _ _ ?_)
   refine gw_seq fun K519 hK519 => ?_
   refine wp_region_lit ?_
   refine V H518 (op_move rfl (H518.ev rfl)) ?_
   intro _ H521; clear H518
   refine V H521 (op_move rfl (H521.ev rfl)) ?_
   intro _ H523; clear H521
   refine V H523 (op_eqi rfl (H523.ev rfl) (H523.ev rfl)) ?_
   intro _ H525; clear H523
   have H526 := H525.lit (b := true) (by simp)
   clear H525
   refine V H526 (op_move rfl (H526.ev rfl)) ?_
   intro _ H528; clear H526
   refine V2 H528 (want_yes H528 rfl rfl rfl rfl) (op_move rfl (H528.ev rfl)) ?_
   intro _ H530; clear H528
   refine V2 H530 (want_yes H530 rfl rfl rfl rfl) (op_move rfl (H530.ev rfl)) ?_
   intro _ H532; clear H530
   refine gw_call H532 (want_yes H532 rfl rfl rfl rfl) rfl (by decide) (op_callL Try.func19 (by kernel_rfl) rfl rfl (ar_cons (H532.ev rfl) (ar_cons (H532.ev rfl) ar_nil))) (same_calls A471 c472 ((readD name d).1) A498 c499 ((readD name d).1) _ (Kd.R_reads' (O507.get 0 rfl)).2.2 (row_cap (O507.get 0 rfl)) hC500 hc501 (by have h1_ := readlen hJ.wf name; omega)) ?_
   rintro e533 w534 ⟨rfl, hb535⟩
   refine ⟨_, rfl, fun _ H537 => ?_⟩
   have O538 := O507.after hb535
   clear H532 O507 hb535
   have H540 := H537.lit (b := true) (by simp)
   clear H537
   refine V H540 (op_pick_t rfl (H540.ev rfl) (H540.ev rfl)) ?_
   intro _ H542; clear H540
   refine V H542 (op_assign rfl (H542.ev rfl)) ?_
   intro _ H544; clear H542
   refine wpList_nil ?_
   refine gw_nx (hK519 _ _ ?_)
   refine wp_ret ?_
   refine gw_ret1 H544 rfl rfl ?_
   exact ⟨rfl, O538.below⟩
end GVfsP_
export GVfsP_ (VfsPlays_walk)
open Classical in
noncomputable def colloquylaw07_VfsPlays.f (a0 : Int) (l1 : List S45) (a2 : ByteArray) : Option Bool := if (a0 ≤ 9223372036854775807) ∧ (l1.length ≤ 4000000000000) ∧ (∀ x ∈ l1, x.f1.size ≤ 9223372036854775807 ∧ x.f2.size ≤ 9223372036854775807) ∧ (∀ x ∈ l1, x.f3 ≤ 9223372036854775807 ∧ x.f4.length ≤ 140737488355327) ∧ (a2.size ≤ 9223372036854775807) then some true else none
theorem colloquylaw07_VfsPlays.calls (a0 : Int) (A1 : Option Addr) (c1 : Nat) (l1 : List S45) (a2 : ByteArray) (r : Bool) (w : World) (hr1 : Kd.C k45 w A1 l1.length l1) (hc1 : l1.length ≤ c1) (h : colloquylaw07_VfsPlays.f a0 l1 a2 = some r) :
    Calls Try.prog 7 #[(.int .i64 a0), (.slice A1 l1.length c1), (.string a2)] w fun e w' => e = .returned (.bool r) ∧ Below w.heap.size w w' := by
  unfold colloquylaw07_VfsPlays.f at h
  split at h
  · cases h; rename_i hh; exact VfsPlays_walk a0 A1 c1 l1 a2 w hr1 hc1 hh.1 hh.2.1 hh.2.2.1 hh.2.2.2.1 hh.2.2.2.2
  · cases h
end Go.Proofs.Ytkdahjnmldeklaa.PA
end
section
namespace Go.Proofs.Ytkdahjnmldeklaa.PA
open Go.RowKit Go.Proofs.YtkdahjnmldeklaaW.PrintWords Go.Proofs.YtkdahjnmldeklaaW.PrintLast Go.Proofs.YtkdahjnmldeklaaW.PrintMore
structure Opens {α : Type} (P : Program) (t : TypeId) (d : Kd α) (good : α → Prop) (wt : α → Nat) (sz : α → Prop) : Prop where
  run : ∀ {H : Type} (enc : TypeId × Value → H) (w : World) (spare : Nat → Bool) (held : Bool) (fuel : Nat) (cs : List Value) (x : DataW H × List MemPlace),
    DataW.trod enc P w 0 spare held fuel t cs = some x → ∃ y : α, d.K w y cs ∧ good y ∧ wt y ≤ Rows.uptoBulk x.1 ∧ ((∀ n ∈ x.1.weights P t, n ≤ reachBytes) → sz y)
structure OpensF {α : Type} (P : Program) (fs : List Field) (off : Nat) (d : Kd α) (good : α → Prop) (wt : α → Nat) (sz : α → Prop) : Prop where
  run : ∀ {H : Type} (enc : TypeId × Value → H) (w : World) (spare : Nat → Bool) (held : Bool) (fuel : Nat) (cs : List Value) (xs : List (DataW H × List MemPlace)),
    (fs.mapM fun f => DataW.trod enc P w 0 spare held fuel f.type ((cs.drop f.offset).take (P.cellsOf f.type))) = some xs →
      ∃ y : α, d.K w y ((cs.drop off).take d.sz) ∧ good y ∧ wt y ≤ Rows.uptoBulkAll (xs.map (·.1)) ∧ ((∀ n ∈ DataW.weightsEach P (fs.map (·.type)) (xs.map (·.1)), n ≤ reachBytes) → sz y)
section
variable {P : Program} {t e : TypeId}
theorem bulk_pos {H : Type} (d : DataW H) : 1 ≤ Rows.uptoBulk d := by
  cases d with
  | lit l => cases l <;> simp [Rows.uptoBulk]
  | nil => simp [Rows.uptoBulk]
  | ptr d => simp [Rows.uptoBulk]
  | slice elems spare => simp [Rows.uptoBulk]
  | agg parts => simp [Rows.uptoBulk]
  | iface t d => simp [Rows.uptoBulk]
  | map entries => simp [Rows.uptoBulk]
  | held h => simp [Rows.uptoBulk]
theorem opens_int {k : IntKind} (ht : P.underlying t = some (.int k)) : Opens P t (Kd.int k) (fun y => (Lit.int k y).wf = true) (fun _ => 1) (fun _ => True) :=
  ⟨fun enc w spare held fuel cs x h => by
    obtain ⟨n, rfl, rfl, hw⟩ := DataW.trod_int ht h
    exact ⟨n, rfl, hw, bulk_pos _, fun _ => trivial⟩⟩
theorem opens_string (ht : P.underlying t = some .string) : Opens P t Kd.string (fun s => s.size ≤ maxLen) (fun s => s.size + 1) (fun s => s.size ≤ reachBytes) :=
  ⟨fun enc w spare held fuel cs x h => by
    obtain ⟨s, rfl, rfl, hs⟩ := DataW.trod_string ht h
    have e : s.data.toList.length = s.size := by rw [Array.length_toList]; rfl
    refine ⟨s, rfl, hs, ?_, fun hn => ?_⟩
    · simp only [Rows.uptoBulk]
      omega
    · rw [← e]
      exact hn _ (by simp [DataW.weights])⟩
theorem bulkAll_map {H : Type} {α : Type} (wt : α → Nat) : ∀ (ds : List (DataW H)) (xs : List α), xs.length = ds.length → (∀ (i : Nat) (x : α) (d : DataW H), xs[i]? = some x → ds[i]? = some d → wt x ≤ Rows.uptoBulk d) → (xs.map wt).sum ≤ Rows.uptoBulkAll ds
  | [], [], _, _ => by simp
  | [], _ :: _, hl, _ => by simp at hl
  | _ :: _, [], hl, _ => by simp at hl
  | d :: ds, x :: xs, hl, h => by
    have h0 := h 0 x d rfl rfl
    have ih := bulkAll_map wt ds xs (by simpa using hl) (fun i x' d' h1 h2 => h (i + 1) x' d' (by simpa using h1) (by simpa using h2))
    simp only [List.map_cons, List.sum_cons, Rows.uptoBulkAll]
    omega
theorem cells_list {w : World} {base : Nat} {a : Addr} {n : Nat} {cs : List Value} (h : w.cells? base a n = some cs) : cs.length = n ∧ ∀ i u, cs[i]? = some u → w.cell? (a.add i) = some u := by
  unfold World.cells? at h
  split at h
  · have hl := mapM_some_length h
    rw [List.length_range] at hl
    refine ⟨hl, fun i u hu => ?_⟩
    have hi : i < n := by
      have := (List.getElem?_eq_some_iff.1 hu).1
      omega
    have := mapM_some_get h i i (by rw [List.getElem?_range hi])
    rw [this]
    exact hu
  · cases h
theorem mem_weightsAll {H : Type} {n : Nat} {d : DataW H} : ∀ {ds : List (DataW H)}, d ∈ ds → n ∈ d.weights P e → n ∈ DataW.weightsAll P e ds
  | [], h, _ => by cases h
  | c :: ds, h, hn => by
    simp only [DataW.weightsAll, List.mem_append]
    rcases List.mem_cons.1 h with rfl | h
    · exact .inl hn
    · exact .inr (mem_weightsAll h hn)
theorem opens_slice {α : Type} [Inhabited α] {d : Kd α} {good : α → Prop} {wt : α → Nat} {sz : α → Prop} {b : Nat} (hby : P.bytesOf e = b) (ht : P.underlying t = some (.slice e)) (hsz : P.cellsOf e = d.sz) (ho : Opens P e d good wt sz) :
    Opens P t (Kd.slice e d) (fun xs => xs.length ≤ maxLen ∧ ∀ x ∈ xs, good x) (fun xs => (xs.map wt).sum + 1) (fun xs => xs.length * b ≤ reachBytes ∧ ∀ x ∈ xs, sz x) :=
  ⟨fun enc w spare held fuel cs x h => by
    rcases Deep.open_slice ht h with ⟨rfl, rfl⟩ | ⟨a, len, cap, m, n, D, Pl, rfl, hb, hl, hm, hmm, rfl, hx⟩
    · refine ⟨[], ⟨none, 0, rfl, Nat.le_refl _, rfl, Nat.zero_le _, fun h => absurd h (by simp)⟩, ⟨by simp [maxLen], fun x hx => by cases hx⟩, by simpa using bulk_pos _, fun _ => ⟨by simp, fun x hx => by cases hx⟩⟩
    · have hlm : len ≤ m := by rw [hmm]; split <;> omega
      have hel : ∀ i : Nat, ∃ y : α, i < len → ∃ cs', w.cells? 0 (a.add (i * P.cellsOf e)) (P.cellsOf e) = some cs' ∧ d.K w y cs' ∧ good y ∧ wt y ≤ Rows.uptoBulk (D i) ∧ ((∀ n ∈ (D i).weights P e, n ≤ reachBytes) → sz y) := by
        intro i
        by_cases hi : i < len
        · obtain ⟨cs', h1, h2⟩ := hx i (by omega)
          obtain ⟨y, hk, hg, hw, hz⟩ := ho.run enc w spare held n cs' _ h2
          exact ⟨y, fun _ => ⟨cs', h1, hk, hg, hw, hz⟩⟩
        · exact ⟨default, fun h => absurd h hi⟩
      obtain ⟨f, hf⟩ := Classical.axiomOfChoice hel
      have hget : ∀ (j : Nat) (p : α), ((List.range len).map f)[j]? = some p → j < len ∧ f j = p := by
        intro j p hj
        have hj' := (List.getElem?_eq_some_iff.1 hj).1
        rw [List.length_map, List.length_range] at hj'
        rw [List.getElem?_map, List.getElem?_range hj'] at hj
        exact ⟨hj', by simpa using hj⟩
      have hlen : ((List.range len).map f).length = len := by rw [List.length_map, List.length_range]
      have hmax : maxLen = 9223372036854775807 := rfl
      refine ⟨(List.range len).map f, ⟨some a, cap, by rw [hlen], by rw [hlen]; exact hl, rfl, by rw [hlen]; omega, fun _ => ⟨a, rfl, fun j p hj => ?_⟩⟩, ⟨by rw [hlen]; omega, fun x hx' => ?_⟩, ?_, fun hn => ⟨?_, fun x hx' => ?_⟩⟩
      · obtain ⟨hj', rfl⟩ := hget j p hj
        obtain ⟨cs', h1, hk, _⟩ := hf j hj'
        obtain ⟨hcl, hcc⟩ := cells_list h1
        refine ⟨cs', by rw [hcl, hsz], hk, fun i u hu => ?_⟩
        have := hcc i u hu
        rwa [Addr.add_add, hsz] at this
      · obtain ⟨i, hi, rfl⟩ := List.mem_map.1 hx'
        obtain ⟨_, _, _, hg, _⟩ := hf i (List.mem_range.1 hi)
        exact hg
      · simp only [Rows.uptoBulk]
        have := bulkAll_map wt ((List.range len).map D) ((List.range len).map f) (by simp) (fun i x' d' h1 h2 => by
          obtain ⟨hi, rfl⟩ := hget i x' h1
          have hd : D i = d' := by
            rw [List.getElem?_map, List.getElem?_range hi] at h2
            simpa using h2
          subst hd
          obtain ⟨_, _, _, _, hw, _⟩ := hf i hi
          exact hw)
        omega
      · simp only [DataW.weights, ht] at hn
        have h1 := hn _ (List.mem_cons_self ..)
        rw [List.length_map, List.length_range, hby] at h1
        rw [hlen]
        exact Nat.le_trans (Nat.mul_le_mul_right b (Nat.le_add_right _ _)) h1
      · simp only [DataW.weights, ht] at hn
        obtain ⟨i, hi, rfl⟩ := List.mem_map.1 hx'
        obtain ⟨_, _, _, _, _, hz⟩ := hf i (List.mem_range.1 hi)
        exact hz fun n hn' => hn n (List.mem_cons_of_mem _ (List.mem_append_left _ (mem_weightsAll (List.mem_map.2 ⟨i, hi, rfl⟩) hn')))⟩
theorem opensF_one {α : Type} {d : Kd α} {good : α → Prop} {wt : α → Nat} {sz : α → Prop} {f : Field} (hsz : P.cellsOf f.type = d.sz) (ho : Opens P f.type d good wt sz) : OpensF P [f] f.offset d good wt sz :=
  ⟨fun enc w spare held fuel cs xs h => by
    simp only [List.mapM_cons, List.mapM_nil] at h
    obtain ⟨x, hx, h2⟩ := Option.bind_eq_some_iff.1 h
    obtain ⟨ys, hys, h3⟩ := Option.bind_eq_some_iff.1 h2
    obtain rfl : [] = ys := by simpa using hys
    obtain rfl : [x] = xs := by simpa using h3
    obtain ⟨y, hk, hg, hw, hz⟩ := ho.run enc w spare held fuel _ x hx
    refine ⟨y, by rw [← hsz]; exact hk, hg, ?_, fun hn => hz fun n h' => hn n ?_⟩
    · simp only [List.map_cons, List.map_nil, Rows.uptoBulkAll]
      omega
    · simp only [List.map_cons, List.map_nil, DataW.weightsEach, List.append_nil]
      exact h'⟩
theorem opensF_cons {α β : Type} {d : Kd α} {d2 : Kd β} {good : α → Prop} {good2 : β → Prop} {wt : α → Nat} {wt2 : β → Nat} {sz : α → Prop} {sz2 : β → Prop} {f : Field} {fs : List Field} {off2 : Nat} (hsz : P.cellsOf f.type = d.sz) (hoff : f.offset + d.sz = off2)
    (ho : Opens P f.type d good wt sz) (h2 : OpensF P fs off2 d2 good2 wt2 sz2) : OpensF P (f :: fs) f.offset (Kd.pair d d2) (fun x => good x.1 ∧ good2 x.2) (fun x => wt x.1 + wt2 x.2) (fun x => sz x.1 ∧ sz2 x.2) :=
  ⟨fun enc w spare held fuel cs xs h => by
    simp only [List.mapM_cons] at h
    obtain ⟨x, hx, h3⟩ := Option.bind_eq_some_iff.1 h
    obtain ⟨ys, hys, h4⟩ := Option.bind_eq_some_iff.1 h3
    obtain rfl : x :: ys = xs := by simpa using h4
    obtain ⟨y, hk, hg, hw, hz⟩ := ho.run enc w spare held fuel _ x hx
    obtain ⟨z, hk2, hg2, hw2, hz2⟩ := h2.run enc w spare held fuel cs ys hys
    refine ⟨(y, z), ⟨(cs.drop f.offset).take d.sz, (cs.drop off2).take d2.sz, ?_, by rw [← hsz]; exact hk, hk2⟩, ⟨hg, hg2⟩, ?_, fun hn => ?_⟩
    · show (cs.drop f.offset).take (d.sz + d2.sz) = _
      rw [List.take_add, List.drop_drop, hoff]
    · simp only [List.map_cons, Rows.uptoBulkAll]
      omega
    · simp only [List.map_cons, DataW.weightsEach] at hn
      exact ⟨hz fun n h' => hn n (List.mem_append_left _ h'), hz2 fun n h' => hn n (List.mem_append_right _ h')⟩⟩
theorem opens_struct {α β : Type} {d : Kd α} {good : α → Prop} {wt : α → Nat} {sz : α → Prop} {fs : Array Field} (f : β → α) (g : α → β) (hfg : ∀ a, f (g a) = a) (ht : P.underlying t = some (.struct fs)) (hsz : P.cellsOf t = d.sz) (ho : OpensF P fs.toList 0 d good wt sz) :
    Opens P t (Kd.iso d f) (fun x => good (f x)) (fun x => wt (f x) + 1) (fun x => sz (f x)) :=
  ⟨fun enc w spare held fuel cs x h => by
    cases fuel with
    | zero => simp [DataW.trod] at h
    | succ n =>
      unfold DataW.trod at h
      rw [ht] at h
      have h' : (if cs.length = P.cellsOf t then (fs.toList.mapM fun f => DataW.trod enc P w 0 spare held n f.type ((cs.drop f.offset).take (P.cellsOf f.type))).map fun xs => (DataW.agg (xs.map (·.1)), xs.flatMap (·.2)) else none) = some x := by
        cases cs with
        | nil => exact h
        | cons c cs => cases cs <;> cases c <;> exact h
      clear h
      split at h'
      · rename_i hl
        obtain ⟨xs, hxs, rfl⟩ := Option.map_eq_some_iff.1 h'
        obtain ⟨y, hk, hg, hw, hz⟩ := ho.run enc w spare held n cs xs hxs
        refine ⟨g y, ?_, by show good (f (g y)); rw [hfg]; exact hg, ?_, fun hn => ?_⟩
        · show d.K w (f (g y)) cs
          rw [hfg]
          rw [List.drop_zero, List.take_of_length_le (by omega)] at hk
          exact hk
        · show wt (f (g y)) + 1 ≤ Rows.uptoBulk (DataW.agg (xs.map (·.1)))
          rw [hfg]
          simp only [Rows.uptoBulk]
          omega
        · show sz (f (g y))
          rw [hfg]
          simp only [DataW.weights, ht] at hn
          exact hz hn
      · cases h'⟩
end
end Go.Proofs.Ytkdahjnmldeklaa.PA
end
section
namespace Go.Proofs.Ytkdahjnmldeklaa.PA
open Go.RowKit Go.Proofs.YtkdahjnmldeklaaW.PrintWords Go.Proofs.YtkdahjnmldeklaaW.PrintLast Go.Proofs.YtkdahjnmldeklaaW.PrintMore
set_option linter.unusedVariables false
instance : Inhabited S45 := ⟨z45⟩
def good45 (x : S45) : Prop := (Lit.int .i64 (x.f0)).wf = true ∧ (x.f1).size ≤ maxLen ∧ (x.f2).size ≤ maxLen ∧ (Lit.int .i64 (x.f3)).wf = true ∧ ((x.f4).length ≤ maxLen ∧ ∀ y ∈ x.f4, (Lit.int .u8 (y)).wf = true) ∧ ((x.f5).length ≤ maxLen ∧ ∀ y ∈ x.f5, (Lit.int .i64 (y)).wf = true)
def wt45 (x : S45) : Nat := (1 + (((x.f1).size + 1) + (((x.f2).size + 1) + (1 + ((((x.f4).map (fun _ => 1)).sum + 1) + ((((x.f5).map (fun _ => 1)).sum + 1))))))) + 1
def sz45 (x : S45) : Prop := True ∧ ((x.f1).size ≤ reachBytes) ∧ ((x.f2).size ≤ reachBytes) ∧ True ∧ ((x.f4).length * 1 ≤ reachBytes ∧ ∀ y ∈ x.f4, True) ∧ ((x.f5).length * 8 ≤ reachBytes ∧ ∀ y ∈ x.f5, True)
theorem opens45 : Opens Try.prog 45 k45 good45 wt45 sz45 :=
  opens_struct (fun x : S45 => (x.f0, x.f1, x.f2, x.f3, x.f4, x.f5)) (fun p => ⟨p.1, p.2.1, p.2.2.1, p.2.2.2.1, p.2.2.2.2.1, p.2.2.2.2.2⟩) (fun _ => rfl) Try.underlying45 (by kernel_rfl) (opensF_cons (by kernel_rfl) rfl (opens_int Try.underlying3) (opensF_cons (by kernel_rfl) rfl (opens_string Try.underlying9) (opensF_cons (by kernel_rfl) rfl (opens_string Try.underlying9) (opensF_cons (by kernel_rfl) rfl (opens_int Try.underlying3) (opensF_cons (by kernel_rfl) rfl (opens_slice (b := 1) (by kernel_rfl) Try.underlying28 (by kernel_rfl) (opens_int Try.underlying5)) (opensF_one (by kernel_rfl) (opens_slice (b := 8) (by kernel_rfl) Try.underlying32 (by kernel_rfl) (opens_int Try.underlying3))))))))
end Go.Proofs.Ytkdahjnmldeklaa.PA
end
section
namespace Go.Proofs.Ytkdahjnmldeklaa.PA
open Go.RowKit Go.Proofs.YtkdahjnmldeklaaW.PrintWords Go.Proofs.YtkdahjnmldeklaaW.PrintLast Go.Proofs.YtkdahjnmldeklaaW.PrintMore
set_option linter.unusedVariables false
def colloquylaw07_VfsPlays.PureU : Prop := ∀ (x0 : Int) (x1 : List (S45)) (x2 : ByteArray), (Lit.int .i64 (x0)).wf = true → ((x1).length ≤ maxLen ∧ ∀ y ∈ x1, good45 (y)) → (x2).size ≤ maxLen → x2.size ≤ 140737488351232 → ((x1).length * 96 ≤ reachBytes ∧ ∀ y ∈ x1, sz45 (y)) → ∃ _ : Nat, colloquylaw07_VfsPlays.f (x0) (x1) (x2) = some true
end Go.Proofs.Ytkdahjnmldeklaa.PA
end
section
namespace Go.Proofs.Ytkdahjnmldeklaa.Pure
open Go.RowKit Go.Proofs.Ytkdahjnmldeklaa.PA
set_option linter.unusedVariables false in
theorem VfsPlays : colloquylaw07_VfsPlays.PureU := by intro x0 x1 x2 g0 g1 g2 s2 s1; have h0 : x0 ≤ 9223372036854775807 := (by simp [Lit.wf, IntKind.signed, IntKind.min, IntKind.max, IntKind.bits] at g0; omega); unfold reachBytes at s1; refine ⟨0, if_pos ⟨h0, (by have := s1.1; omega), fun x hx => ?_, fun x hx => ?_, (by simp only [maxLen] at g2; omega)⟩⟩; (· obtain ⟨_, h1, h2, _, h3, _⟩ := s1.2 x hx; unfold reachBytes at h1 h2; exact ⟨by omega, by omega⟩); (· obtain ⟨_, h1, h2, _, h3, _⟩ := s1.2 x hx; obtain ⟨_, _, _, h4, _⟩ := g1.2 x hx; unfold reachBytes at h3; simp [Lit.wf, IntKind.signed, IntKind.min, IntKind.max, IntKind.bits] at h4; exact ⟨by omega, by have := h3.1; omega⟩)
end Go.Proofs.Ytkdahjnmldeklaa.Pure
end
section
namespace Go.Proofs.Ytkdahjnmldeklaa.vfsPlays
open Go.ChangeShapes Go.WideShapes Go.ChangeAt Go.RowKit
open Go.ChangeMaps (open_string shut_string)
open Go.RowKit Go.Proofs.YtkdahjnmldeklaaW.PrintWords Go.Proofs.YtkdahjnmldeklaaW.PrintLast Go.Proofs.YtkdahjnmldeklaaW.PrintMore Go.Proofs.Ytkdahjnmldeklaa.PA
set_option linter.unusedVariables false
set_option linter.unusedSimpArgs false
theorem own : ownKnob Try.prog.godebug = none := by kernel_rfl
theorem laidOut : laidOutB Try.prog = true := by kernel_rfl
set_option maxRecDepth 100000 in
theorem contract (H : Type) (enc : TypeId × Value → H) (W : World) (base : Nat) (args : Array Value) (ds gs : List (DataW H)) (before : List MemPlace)
    (hval0 : ∀ (j : Nat) t v, Try.f7.params[j]? = some t → args[j]? = some v → Value.okWide Try.prog W .any base t v)
    (hW : DataW.Whole enc Try.prog Try.f7.params.toList Rows.vfsPlaysSpec.vars false W args.toList ds gs before)
    (hsz0 : (DataW.weightsEach Try.prog (Try.f7.params.toList ++ Rows.vfsPlaysSpec.plain.varTypes Try.prog) (ds ++ gs)).all (· ≤ reachBytes) = true) :
    Calls Try.prog 7 args W fun e W' => ∃ v, e = .returned v ∧ Rows.vfsPlaysSpec.post enc Try.prog Try.f7 false true false false W args v W' := by
  have hsz : (DataW.weightsEach Try.prog (Try.f7.params.toList ++ Rows.vfsPlaysSpec.plain.varTypes Try.prog) (ds ++ gs)).all (· ≤ reachBytes) = true := hsz0
  have hval : ∀ (j : Nat) t v, Try.f7.params[j]? = some t → args[j]? = some v → Value.okWide Try.prog W .any base t v := hval0
  have hW' := hW
  obtain ⟨p, q, hA0, hV, rfl, hfz, hnd⟩ := hW
  have hA : DataW.TrodAll enc Try.prog W 0 (fun _ => true) true Try.f7.params.toList args.toList ds p := hA0
  rw [Try.params7] at hA hval hsz
  obtain ⟨v0, vs0, d0, ds0, p0, q0, hargs, rfl, rfl, h0, r0⟩ := trodAll_cons hA
  obtain ⟨v1, vs1, d1, ds1, p1, q1, rfl, rfl, rfl, h1, r1⟩ := trodAll_cons r0
  obtain ⟨v2, vs2, d2, ds2, p2, q2, rfl, rfl, rfl, h2, r2⟩ := trodAll_cons r1
  obtain ⟨rfl, rfl, rfl⟩ := trodAll_nil r2
  obtain rfl : args = #[v0, v1, v2] := by cases args; simp_all
  obtain ⟨rfl, rfl⟩ := trodVars_none hV
  obtain ⟨x0, rfl, rfl, rfl, g0⟩ := open_int Try.underlying3 (hval 0 3 v0 rfl rfl) h0
  have k1 := h1
  have lt1 : ∀ x ∈ p1, x.block < W.heap.size := by obtain ⟨m, hm⟩ := k1; exact DataW.trod_lt m _ _ _ hm
  obtain ⟨fuel1, hf1⟩ := h1
  obtain ⟨x1, hK1, g1, z1, s10⟩ := (opens_slice (b := 96) (by kernel_rfl) Try.underlying43 (by kernel_rfl) opens45).run enc W _ _ fuel1 _ _ hf1
  have s1 := s10 (fun n hn => by have := List.all_eq_true.1 hsz n (DataW.weights_mem_each (j := 1) (t := 43) rfl rfl n hn); simpa using this)
  obtain ⟨a1, len1, cap1, rfl⟩ := okWide_slice Try.underlying43 (hval 1 43 v1 rfl rfl)
  obtain ⟨A1, c1, hcs1, hc1, hr1⟩ := hK1
  obtain ⟨rfl, rfl, rfl⟩ : a1 = A1 ∧ len1 = x1.length ∧ cap1 = c1 := by
    have hcs' : [Value.slice a1 len1 cap1] = [Value.slice A1 x1.length c1] := hcs1
    injection hcs' with e1 _
    injection e1 with e1 e2 e3
    exact ⟨e1, e2, e3⟩
  obtain ⟨x2, rfl, rfl, rfl, g2⟩ := open_string Try.underlying9 (hval 2 9 v2 rfl rfl) h2
  have z2 : x2.size ≤ 140737488351232 := by
    have z := sized_string hsz (j := 2) (t := 9) rfl rfl
    rw [Array.length_toList] at z
    exact z
  obtain ⟨k, h⟩ := Pure.VfsPlays x0 x1 x2 g0 g1 g2 z2 s1
  refine (PA.colloquylaw07_VfsPlays.calls (a0 := x0) (A1 := a1) (c1 := cap1) (l1 := x1) (a2 := x2) (r := true) (w := W) (hr1 := hr1) (hc1 := hc1) (h := h)).mono fun e W' ⟨he, hb⟩ => ?_
  have bel : Below W.heap.size W W' := by first | exact hb | exact Drawn0.below hb
  subst he
  exact ⟨_, rfl, _, _, _, [], _, [], hW', trodAll_mk1 (shut_bool Try.underlying4 _), (trodAll_cons_mk (shut_int Try.underlying3 g0) (trodAll_cons_mk (Below.trod laidOut (by kernel_rfl) (of_decide_eq_true (by kernel_rfl)) k1 bel lt1) (trodAll_cons_mk (shut_string Try.underlying9 g2) trodAll_mk0))), rfl, bel.frame _, fun h => by cases h⟩
set_option maxRecDepth 100000 in
theorem lifted (os : Os) (started : os.Started) (H : Type) (enc : TypeId × Value → H) :
    ReturnsInHanded {} Try.checked os 7 .any (Rows.vfsPlaysSpec.pre6 enc Try.prog Try.f7 Rows.vfsPlaysRow.domain false) (Rows.vfsPlaysSpec.post enc Try.prog Try.f7 false true false false) := by
  refine returnsInHanded_of_change_sized (C := Try.checked) own started (by kernel_rfl) Try.func7
    (ChangeSpec.witness6 (enc := enc) (C := Try.checked) false ⟨#[], #[.int .i64 0, .slice none 0 0, .string ByteArray.empty], []⟩ 8 (by kernel_rfl) (by kernel_rfl) (by kernel_rfl) (by kernel_rfl)) ?_
  intro W base args ds gs before hval hW _ hsz _
  exact contract H enc W base args ds gs before hval hW hsz
theorem proved : Rows.VfsPlaysSaid :=
  OpenClaim.holds_of_wide 7 Try.f7 rfl rfl rfl rfl rfl rfl rfl ⟨rfl, rfl, rfl, rfl, rfl⟩ rfl rfl rfl rfl rfl (by kernel_rfl) Try.func7 (by kernel_rfl)
    (of_decide_eq_true (by kernel_rfl)) (by unfold Func.isWrapper; first | (rw [if_pos (by decide +kernel)]; kernel_rfl) | (rw [if_neg (by decide +kernel)]; exact ⟨rfl, rfl⟩))
    (fun os started H enc _ => lifted os started H enc)
#print axioms proved
end Go.Proofs.Ytkdahjnmldeklaa.vfsPlays
namespace Go.Proofs.Ytkdahjnmldeklaa
theorem vfsPlays_holds : Rows.VfsPlaysSaid := vfsPlays.proved
end Go.Proofs.Ytkdahjnmldeklaa
end
