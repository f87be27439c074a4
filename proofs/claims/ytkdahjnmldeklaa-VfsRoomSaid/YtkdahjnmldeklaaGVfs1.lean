/- The disk: Create. Printed by a program of this session; Lean checks it. -/
import Derived.Test.YtkdahjnmldeklaaGVfs0
namespace Go.Proofs.Ytkdahjnmldeklaa.PA
open Go.RowKit Go.Proofs.YtkdahjnmldeklaaW.PrintWords Go.Proofs.YtkdahjnmldeklaaW.PrintLast Go.Proofs.YtkdahjnmldeklaaW.PrintMore
set_option linter.unusedVariables false
set_option linter.unusedSimpArgs false
namespace GVfs1_
theorem gwagg23 : ∀ w, (isAgg 23).run Try.prog w = .ok false w := fun _ => by kernel_rfl
theorem gwagg4 : ∀ w, (isAgg 4).run Try.prog w = .ok false w := fun _ => by kernel_rfl
theorem gwagg74 : ∀ w, (isAgg 74).run Try.prog w = .ok false w := fun _ => by kernel_rfl
theorem gwagg9 : ∀ w, (isAgg 9).run Try.prog w = .ok false w := fun _ => by kernel_rfl
theorem gwfld76_0 (g off : Nat) : ∀ w, (Instr.fieldAt 76 (.pointer (some ⟨g, off, none⟩)) 0).run Try.prog w = .ok (.pointer (some ⟨g, off + 0, none⟩)) w := fun _ => by kernel_rfl
theorem gwfld76_4 (g off : Nat) : ∀ w, (Instr.fieldAt 76 (.pointer (some ⟨g, off, none⟩)) 4).run Try.prog w = .ok (.pointer (some ⟨g, off + 4, none⟩)) w := fun _ => by kernel_rfl
theorem gwzer78 : ∀ w, (zeroValue 78).run Try.prog w = .ok (.pointer none) w := fun _ => by kernel_rfl
set_option maxHeartbeats 4000000 in
set_option maxRecDepth 100000 in
theorem create1 (w0 w : World) (R : Chunk) (gd gm : Nat) (d : PD) (xs : List XF) (nm : ByteArray) (bd bn : Nat) (hn : nm.size ≤ 9223372036854775807) (hl : xs.length < 9223372036854775807) (HO : Own w0 w [R, Chunk.blk gd (.cells #[.map (some gm), .int .i64 d.most, .int .i64 d.used, .int .i64 d.fuse, .bool d.down] 76 (0, 0)), Chunk.lmap Try.prog 9 gm (xs.map XF.ent), Chunk.blk bd (.cells #[.pointer (some ⟨gd, 0, none⟩)] 23 (0, 0)), Chunk.blk bn (.cells #[.string nm] 9 (0, 0))]) :
    Calls Try.prog 41 #[.pointer (some ⟨bd, 0, none⟩), .pointer (some ⟨bn, 0, none⟩)] w fun e w' => e = .returned (.tuple #[]) ∧ ∃ g : Nat, Own w0 w' [R, Chunk.blk g (.cells #[.slice none 0 0, .int .i64 0] 81 (0, 0)), Chunk.blk gd (.cells (dcells gm d) 76 (0, 0)), Chunk.lmap Try.prog 9 gm (lput (litS nm) (.pointer (some ⟨g, 0, none⟩)) (xs.map XF.ent))] := by
  refine gw_startO (N := 9) (vs := [.pointer (some ⟨bd, 0, none⟩), .pointer (some ⟨bn, 0, none⟩)]) Try.func41 rfl rfl (by simp) fun a HF => ?_
  refine gx_draw (M := [R, Chunk.blk gd (.cells #[.map (some gm), .int .i64 d.most, .int .i64 d.used, .int .i64 d.fuse, .bool d.down] 76 (0, 0)), Chunk.lmap Try.prog 9 gm (xs.map XF.ent), Chunk.blk bd (.cells #[.pointer (some ⟨gd, 0, none⟩)] 23 (0, 0)), Chunk.blk bn (.cells #[.string nm] 9 (0, 0))]) (fun j_ => j_ == 7) HO (by kernel_rfl) fun w1 HO2 => ?_
  clear HO
  refine gx_take 0 rfl (by kernel_rfl) HF (by exact HO2.sel [0, 1, 2, 3, 4] (by decide)) (want_none rfl) rfl (by decide) (fun wq HO => (op_load1 gwagg23 rfl (HF.ev rfl) (blk_at (HO.get 3 rfl) rfl))) ?_
  intro a3 HF4; clear HF
  refine gx_take 1 rfl (by kernel_rfl) HF4 (by exact HO2.sel [0, 1, 2, 3, 4] (by decide)) (want_none rfl) rfl (by decide) (fun wq HO => (op_nil rfl (HF4.ev rfl))) ?_
  intro a5 HF6; clear HF4
  refine gx_take 2 rfl (by kernel_rfl) HF6 (by exact HO2.sel [0, 1, 2, 3, 4] (by decide)) (want_none rfl) rfl (by decide) (fun wq HO => (op_field (gwfld76_0 _ _) rfl (HF6.ev rfl))) ?_
  intro a7 HF8; clear HF6
  refine gx_take 3 rfl (by kernel_rfl) HF8 (by exact HO2.sel [0, 1, 2, 3, 4] (by decide)) (want_none rfl) rfl (by decide) (fun wq HO => (op_load1 gwagg74 rfl (HF8.ev rfl) (blk_at (HO.get 1 rfl) rfl))) ?_
  intro a9 HF10; clear HF8
  refine gx_take 4 rfl (by kernel_rfl) HF10 (by exact HO2.sel [0, 1, 2, 3, 4] (by decide)) (want_none rfl) rfl (by decide) (fun wq HO => (op_load1 gwagg9 rfl (HF10.ev rfl) (blk_at (HO.get 4 rfl) rfl))) ?_
  intro a11 HF12; clear HF10
  refine gx_take 5 rfl (by kernel_rfl) HF12 (by exact HO2.sel [0, 1, 2, 3, 4] (by decide)) (want_none rfl) rfl (by decide) (fun wq HO => (op_build (cells := #[.slice none 0 0, .int .i64 0]) rfl pt_nil (by kernel_rfl))) ?_
  intro a13 HF14; clear HF12
  refine gx_step 6 rfl (by kernel_rfl) ?_
  refine gw_new HF14 HO2 (want_none rfl) rfl (by decide) (op_box rfl (HF14.ev rfl)) ?_
  intro g15 a16 w17 HF18 HO19; clear HF14 HO2
  have HO20 : Own w0 w17 [Chunk.blk g15 (.cells #[.slice none 0 0, .int .i64 0] 81 (0, 0)), R, Chunk.blk gd (.cells #[.map (some gm), .int .i64 d.most, .int .i64 d.used, .int .i64 d.fuse, .bool d.down] 76 (0, 0)), Chunk.lmap Try.prog 9 gm (xs.map XF.ent), Chunk.blk bd (.cells #[.pointer (some ⟨gd, 0, none⟩)] 23 (0, 0)), Chunk.blk bn (.cells #[.string nm] 9 (0, 0))] := HO19
  clear HO19
  refine gx_on (i := 6) (B := (fun j_ => j_ == 7)) (M := [R, Chunk.blk gd (.cells #[.map (some gm), .int .i64 d.most, .int .i64 d.used, .int .i64 d.fuse, .bool d.down] 76 (0, 0)), Chunk.lmap Try.prog 9 gm (xs.map XF.ent), Chunk.blk bd (.cells #[.pointer (some ⟨gd, 0, none⟩)] 23 (0, 0)), Chunk.blk bn (.cells #[.string nm] 9 (0, 0))]) (fun _ => (by exact HO20.sel [1, 2, 3, 4, 5] (by decide))) ?_
  refine gx_step 7 rfl (by kernel_rfl) ?_
  refine gw_mput 3 strKey Try.underlying74 HF18 HO20 rfl (want_none rfl) rfl rfl (HF18.ev rfl) (HF18.ev rfl) (HF18.ev rfl) (keyS (hn)) (by simpa using hl) ?_
  intro a21 w22 HF23 HO24; clear HF18 HO20
  have HO25 : Own w0 w22 [Chunk.blk g15 (.cells #[.slice none 0 0, .int .i64 0] 81 (0, 0)), R, Chunk.blk gd (.cells #[.map (some gm), .int .i64 d.most, .int .i64 d.used, .int .i64 d.fuse, .bool d.down] 76 (0, 0)), Chunk.lmap Try.prog 9 gm (lput (litS nm) (.pointer (some ⟨g15, 0, none⟩)) (xs.map XF.ent)), Chunk.blk bd (.cells #[.pointer (some ⟨gd, 0, none⟩)] 23 (0, 0)), Chunk.blk bn (.cells #[.string nm] 9 (0, 0))] := HO24
  clear HO24
  refine gx_on (i := 7) (B := (fun j_ => j_ == 7)) (M := [R, Chunk.blk gd (.cells #[.map (some gm), .int .i64 d.most, .int .i64 d.used, .int .i64 d.fuse, .bool d.down] 76 (0, 0)), Chunk.lmap Try.prog 9 gm (xs.map XF.ent), Chunk.blk bd (.cells #[.pointer (some ⟨gd, 0, none⟩)] 23 (0, 0)), Chunk.blk bn (.cells #[.string nm] 9 (0, 0))]) (fun h_ => by cases h_) ?_
  refine gx_done (by kernel_rfl) ?_
  refine gw_end0 HF23 rfl ?_
  exact ⟨rfl, _, HO25.sel [1, 0, 2, 3] (by decide)⟩
set_option maxHeartbeats 4000000 in
set_option maxRecDepth 100000 in
theorem create_calls (w0 w : World) (R : Chunk) (gd : Nat) (S : Nat → Prop) (d : PD) (nm : ByteArray) (hw : wfD d) (hn : nm.size ≤ 9223372036854775807) (hlen : d.fs.length ≤ 1000000) (HO : Own w0 w [R, Chunk.disk w0.heap.size gd S d]) :
    Calls Try.prog 13 #[.pointer (some ⟨gd, 0, none⟩), .string nm] w fun e w' => e = .returned (.int .i64 (createD nm d).2) ∧ ∃ S', Own w0 w' [R, Chunk.disk w0.heap.size gd S' (createD nm d).1] := by
  have hu0 := hw.used
  have hm0 := hw.most
  have hfu := hw.fuse
  obtain ⟨gm, xs, hxs, hon, HO⟩ := disk_open2 HO
  have hxl : xs.length ≤ 1000000 := by rw [← hxs, List.length_map] at hlen; exact hlen
  refine gw_startO (N := 25) (vs := [.pointer (some ⟨gd, 0, none⟩), .string nm]) Try.func13 rfl rfl (by simp) fun a HF => ?_
  rcases look3 nm d hxs hon with hdn | ⟨hdn, hl, hgd, hno⟩ | ⟨hdn, pre, x, post, rfl, hnm, hl, hgd, hoth⟩
  · skip
    refine gw_seq fun K1 hK1 => ?_
    refine wp_region_lit ?_
    refine gw_new HF HO (want_none rfl) rfl (by decide) (op_box rfl (HF.ev rfl)) ?_
    intro g2 a3 w4 HF5 HO6; clear HF HO
    have HO7 : Own w0 w4 [Chunk.blk g2 (.cells #[.pointer (some ⟨gd, 0, none⟩)] 23 (0, 0)), R, Chunk.blk gd (.cells #[.map (some gm), .int .i64 d.most, .int .i64 d.used, .int .i64 d.fuse, .bool d.down] 76 (0, 0)), Chunk.lmap Try.prog 9 gm (xs.map XF.ent), Chunk.files w0.heap.size xs] := HO6
    clear HO6
    refine gw_new HF5 HO7 (want_none rfl) rfl (by decide) (op_box rfl (HF5.ev rfl)) ?_
    intro g8 a9 w10 HF11 HO12; clear HF5 HO7
    have HO13 : Own w0 w10 [Chunk.blk g8 (.cells #[.string nm] 9 (0, 0)), Chunk.blk g2 (.cells #[.pointer (some ⟨gd, 0, none⟩)] 23 (0, 0)), R, Chunk.blk gd (.cells #[.map (some gm), .int .i64 d.most, .int .i64 d.used, .int .i64 d.fuse, .bool d.down] 76 (0, 0)), Chunk.lmap Try.prog 9 gm (xs.map XF.ent), Chunk.files w0.heap.size xs] := HO12
    clear HO12
    refine gw_ev HF11 (want_none rfl) rfl (by decide) (op_assign rfl (ev_c _ _)) ?_
    intro a14 HF15; clear HF11
    refine wpList_nil ?_
    refine gw_nx (hK1 _ _ ?_)
    refine gw_seq fun K16 hK16 => ?_
    refine wp_block ?_
    refine gw_seq fun K17 hK17 => ?_
    refine wp_region_lit ?_
    refine gw_ev HF15 (want_none rfl) rfl (by decide) (op_load1 gwagg23 rfl (HF15.ev rfl) (blk_at (HO13.get 1 rfl) rfl)) ?_
    intro a18 HF19; clear HF15
    refine gw_ev HF19 (want_none rfl) rfl (by decide) (op_nil rfl (HF19.ev rfl)) ?_
    intro a20 HF21; clear HF19
    refine gw_ev HF21 (want_none rfl) rfl (by decide) (op_field (gwfld76_4 _ _) rfl (HF21.ev rfl)) ?_
    intro a22 HF23; clear HF21
    refine gw_ev HF23 (want_none rfl) rfl (by decide) (op_load1 gwagg4 rfl (HF23.ev rfl) (blk_at (HO13.get 3 rfl) rfl)) ?_
    intro a24 HF25; clear HF23
    have HF26 := HF25.lit (b := true) (hdn)
    clear HF25
    refine gw_ev HF26 (want_none rfl) rfl (by decide) (op_assign rfl (HF26.ev rfl)) ?_
    intro a27 HF28; clear HF26
    refine wpList_nil ?_
    refine gw_nx (hK17 _ _ ?_)
    refine gw_cond HF28 rfl (fun hb29 => ?_) (fun hb29 => ?_)
    rotate_left
    · cases hb29
    refine gw_seq fun K30 hK30 => ?_
    refine wp_region_lit ?_
    refine gw_ev HF28 (want_none rfl) rfl (by decide) (op_assign rfl (ev_c _ _)) ?_
    intro a31 HF32; clear HF28
    refine wpList_nil ?_
    refine gw_nx (hK30 _ _ ?_)
    refine wp_ret ?_
    refine gw_blr ?_
    refine gw_thr ?_
    refine gw_ret1 HF32 rfl rfl ?_
    exact disk_fin (gd := gd) (gm := gm) (d' := d) (xs := xs) (create_down hdn) hxs (by exact HO13.sel [2, 3, 4, 5] (by decide))
  · skip
    refine gw_seq fun K33 hK33 => ?_
    refine wp_region_lit ?_
    refine gw_new HF HO (want_none rfl) rfl (by decide) (op_box rfl (HF.ev rfl)) ?_
    intro g34 a35 w36 HF37 HO38; clear HF HO
    have HO39 : Own w0 w36 [Chunk.blk g34 (.cells #[.pointer (some ⟨gd, 0, none⟩)] 23 (0, 0)), R, Chunk.blk gd (.cells #[.map (some gm), .int .i64 d.most, .int .i64 d.used, .int .i64 d.fuse, .bool d.down] 76 (0, 0)), Chunk.lmap Try.prog 9 gm (xs.map XF.ent), Chunk.files w0.heap.size xs] := HO38
    clear HO38
    refine gw_new HF37 HO39 (want_none rfl) rfl (by decide) (op_box rfl (HF37.ev rfl)) ?_
    intro g40 a41 w42 HF43 HO44; clear HF37 HO39
    have HO45 : Own w0 w42 [Chunk.blk g40 (.cells #[.string nm] 9 (0, 0)), Chunk.blk g34 (.cells #[.pointer (some ⟨gd, 0, none⟩)] 23 (0, 0)), R, Chunk.blk gd (.cells #[.map (some gm), .int .i64 d.most, .int .i64 d.used, .int .i64 d.fuse, .bool d.down] 76 (0, 0)), Chunk.lmap Try.prog 9 gm (xs.map XF.ent), Chunk.files w0.heap.size xs] := HO44
    clear HO44
    refine gw_ev HF43 (want_none rfl) rfl (by decide) (op_assign rfl (ev_c _ _)) ?_
    intro a46 HF47; clear HF43
    refine wpList_nil ?_
    refine gw_nx (hK33 _ _ ?_)
    refine gw_seq fun K48 hK48 => ?_
    refine wp_block ?_
    refine gw_seq fun K49 hK49 => ?_
    refine wp_region_lit ?_
    refine gw_ev HF47 (want_none rfl) rfl (by decide) (op_load1 gwagg23 rfl (HF47.ev rfl) (blk_at (HO45.get 1 rfl) rfl)) ?_
    intro a50 HF51; clear HF47
    refine gw_ev HF51 (want_none rfl) rfl (by decide) (op_nil rfl (HF51.ev rfl)) ?_
    intro a52 HF53; clear HF51
    refine gw_ev HF53 (want_none rfl) rfl (by decide) (op_field (gwfld76_4 _ _) rfl (HF53.ev rfl)) ?_
    intro a54 HF55; clear HF53
    refine gw_ev HF55 (want_none rfl) rfl (by decide) (op_load1 gwagg4 rfl (HF55.ev rfl) (blk_at (HO45.get 3 rfl) rfl)) ?_
    intro a56 HF57; clear HF55
    have HF58 := HF57.lit (b := false) (hdn)
    clear HF57
    refine gw_ev HF58 (want_none rfl) rfl (by decide) (op_assign rfl (HF58.ev rfl)) ?_
    intro a59 HF60; clear HF58
    refine wpList_nil ?_
    refine gw_nx (hK49 _ _ ?_)
    refine gw_cond HF60 rfl (fun hb61 => ?_) (fun hb61 => ?_)
    skip
    · cases hb61
    refine gw_seq fun K62 hK62 => ?_
    refine wp_region_lit ?_
    refine gw_ev HF60 (want_none rfl) rfl (by decide) (op_load1 gwagg9 rfl (HF60.ev rfl) (blk_at (HO45.get 0 rfl) rfl)) ?_
    intro a63 HF64; clear HF60
    refine gw_call HF64 (want_none rfl) rfl (by decide) (op_callL Try.func39 (by kernel_rfl) rfl rfl (ar_cons (HF64.ev rfl) ar_nil)) (named_calls nm _) ?_
    rintro e65 w66 ⟨rfl, hb67⟩
    refine ⟨_, rfl, fun a68 HF69 => ?_⟩
    have HO70 := HO45.after hb67
    clear HF64 HO45 hb67
    refine gw_ev HF69 (want_none rfl) rfl (by decide) (op_not rfl (HF69.ev rfl)) ?_
    intro a72 HF73; clear HF69
    refine gw_ev HF73 (want_none rfl) rfl (by decide) (op_assign rfl (HF73.ev rfl)) ?_
    intro a74 HF75; clear HF73
    refine wpList_nil ?_
    refine gw_nx (hK62 _ _ ?_)
    refine gw_cond HF75 rfl (fun hb76 => ?_) (fun hb76 => ?_)
    · skip
      have HF77 := HF75.subst_ (d := 10) (b := true) rfl hb76
      clear HF75
      (try simp only [Bool.and_eq_true, Bool.or_eq_true, Bool.and_eq_false_iff, Bool.or_eq_false_iff, Bool.not_and, Bool.not_or, Bool.not_not, decide_eq_true_eq, decide_eq_false_iff_not, Bool.not_eq_true', Bool.not_eq_false', Bool.not_eq_true, Bool.not_eq_false, ne_eq, Decidable.not_not, Int.not_lt, Int.not_le, not_true_eq_false, not_false_eq_true, bne_iff_ne, beq_iff_eq, bne_eq_false_iff_eq, beq_eq_false_iff_ne] at hb76)
      have hnb : namedB nm = false := by simpa using hb76
      refine gw_seq fun K78 hK78 => ?_
      refine wp_region_lit ?_
      refine gw_ev HF77 (want_none rfl) rfl (by decide) (op_assign rfl (ev_c _ _)) ?_
      intro a79 HF80; clear HF77
      refine wpList_nil ?_
      refine gw_nx (hK78 _ _ ?_)
      refine wp_ret ?_
      refine gw_blr ?_
      refine gw_thr ?_
      refine gw_ret1 HF80 rfl rfl ?_
      exact disk_fin (gd := gd) (gm := gm) (d' := d) (xs := xs) (create_bad hdn hnb) hxs (by exact HO70.sel [2, 3, 4, 5] (by decide))
    · skip
      have HF81 := HF75.subst_ (d := 10) (b := false) rfl hb76
      clear HF75
      (try simp only [Bool.and_eq_true, Bool.or_eq_true, Bool.and_eq_false_iff, Bool.or_eq_false_iff, Bool.not_and, Bool.not_or, Bool.not_not, decide_eq_true_eq, decide_eq_false_iff_not, Bool.not_eq_true', Bool.not_eq_false', Bool.not_eq_true, Bool.not_eq_false, ne_eq, Decidable.not_not, Int.not_lt, Int.not_le, not_true_eq_false, not_false_eq_true, bne_iff_ne, beq_iff_eq, bne_eq_false_iff_eq, beq_eq_false_iff_ne] at hb76)
      have hnb : namedB nm = true := by simpa using hb76
      refine gw_seq fun K82 hK82 => ?_
      refine gw_drawB HO70 (by kernel_rfl) (by kernel_rfl) fun w83 HO84 => ?_
      clear HO70
      refine gq_ev HF81 (want_none rfl) rfl (by decide) (fun wq hq => have HO := HO84.after hq; (op_load1 gwagg23 rfl (HF81.ev rfl) (blk_at (HO.get 1 rfl) rfl))) ?_
      intro a85 HF86; clear HF81
      refine gq_ev HF86 (want_none rfl) rfl (by decide) (fun wq hq => have HO := HO84.after hq; (op_nil rfl (HF86.ev rfl))) ?_
      intro a87 HF88; clear HF86
      refine gq_ev HF88 (want_none rfl) rfl (by decide) (fun wq hq => have HO := HO84.after hq; (op_field (gwfld76_0 _ _) rfl (HF88.ev rfl))) ?_
      intro a89 HF90; clear HF88
      refine gq_ev HF90 (want_none rfl) rfl (by decide) (fun wq hq => have HO := HO84.after hq; (op_load1 gwagg74 rfl (HF90.ev rfl) (blk_at (HO.get 3 rfl) rfl))) ?_
      intro a91 HF92; clear HF90
      refine gq_ev HF92 (want_none rfl) rfl (by decide) (fun wq hq => have HO := HO84.after hq; (op_load1 gwagg9 rfl (HF92.ev rfl) (blk_at (HO.get 0 rfl) rfl))) ?_
      intro a93 HF94; clear HF92
      refine gq_ev HF94 (want_none rfl) rfl (by decide) (fun wq hq => have HO := HO84.after hq; (op_ml_none strKey Try.underlying74 gwzer78 rfl (HF94.ev rfl) (HF94.ev rfl) (keyS (hn)) (HO.get 4 rfl) (hl))) ?_
      intro a95 HF96; clear HF94
      refine gq_ev HF96 (want_none rfl) rfl (by decide) (fun wq hq => have HO := HO84.after hq; (op_nep_nils Try.underlying78 rfl (HF96.ev rfl))) ?_
      intro a97 HF98; clear HF96
      refine gq_ev HF98 (want_none rfl) rfl (by decide) (fun wq hq => have HO := HO84.after hq; (op_assign rfl (HF98.ev rfl))) ?_
      intro a99 HF100; clear HF98
      refine wpQuiet_nil ?_
      intro w101 hq
      have HO102 := HO84.after hq
      clear HO84 hq
      refine gw_nx (hK82 _ _ ?_)
      refine gw_cond HF100 rfl (fun hb103 => ?_) (fun hb103 => ?_)
      skip
      · cases hb103
      refine wp_skip ?_
      refine gw_blk ?_
      refine gw_nx (hK48 _ _ ?_)
      refine gw_seq fun K104 hK104 => ?_
      refine wp_region_lit ?_
      refine gw_ev HF100 (want_none rfl) rfl (by decide) (op_load1 gwagg23 rfl (HF100.ev rfl) (blk_at (HO102.get 1 rfl) rfl)) ?_
      intro a105 HF106; clear HF100
      refine gw_ev HF106 (want_none rfl) rfl (by decide) (op_func rfl (ar_cons (HF106.ev rfl) (ar_cons (HF106.ev rfl) ar_nil))) ?_
      intro a107 HF108; clear HF106
      have HO115 : Own w0 _ [(Chunk.all [Chunk.blk g40 (.cells #[.string nm] 9 (0, 0)), Chunk.blk g34 (.cells #[.pointer (some ⟨gd, 0, none⟩)] 23 (0, 0)), R, Chunk.lmap Try.prog 9 gm (xs.map XF.ent), Chunk.files w0.heap.size xs]), Chunk.blk gd (.cells #[.map (some gm), .int .i64 d.most, .int .i64 d.used, .int .i64 d.fuse, .bool d.down] 76 (0, 0))] := Own.bundle (A := [Chunk.blk g40 (.cells #[.string nm] 9 (0, 0)), Chunk.blk g34 (.cells #[.pointer (some ⟨gd, 0, none⟩)] 23 (0, 0)), R, Chunk.lmap Try.prog 9 gm (xs.map XF.ent), Chunk.files w0.heap.size xs]) (L := [Chunk.blk gd (.cells #[.map (some gm), .int .i64 d.most, .int .i64 d.used, .int .i64 d.fuse, .bool d.down] 76 (0, 0))]) (HO102.sel [0, 1, 2, 4, 5, 3] (by decide))
      refine gw_call HF108 (want_none rfl) rfl (by decide) (op_callL Try.func40 (by kernel_rfl) rfl rfl (ar_cons (HF108.ev rfl) (ar_cons (HF108.ev rfl) ar_nil))) (step_calls w0 _ (Chunk.all [Chunk.blk g40 (.cells #[.string nm] 9 (0, 0)), Chunk.blk g34 (.cells #[.pointer (some ⟨gd, 0, none⟩)] 23 (0, 0)), R, Chunk.lmap Try.prog 9 gm (xs.map XF.ent), Chunk.files w0.heap.size xs]) gd gm d 41 _ [.pointer (some ⟨g34, 0, none⟩), .pointer (some ⟨g40, 0, none⟩)] (fun w_ => ∃ g, Own w0 w_ [(Chunk.all [R, Chunk.files w0.heap.size xs]), Chunk.blk g (.cells #[.slice none 0 0, .int .i64 0] 81 (0, 0)), Chunk.blk gd (.cells #[.map (some gm), .int .i64 (({ d with fuse := decF d.fuse } : PD).most), .int .i64 (({ d with fuse := decF d.fuse } : PD).used), .int .i64 (({ d with fuse := decF d.fuse } : PD).fuse), .bool (({ d with fuse := decF d.fuse } : PD).down)] 76 (0, 0)), Chunk.lmap Try.prog 9 gm (lput (litS nm) (.pointer (some ⟨g, 0, none⟩)) (xs.map XF.ent))]) Try.func41 (by kernel_rfl) rfl hfu (fun hf1 w1 h_ => create1 w0 w1 (Chunk.all [R, Chunk.files w0.heap.size xs]) gd gm ({ d with fuse := decF d.fuse } : PD) xs nm g34 g40 hn (by omega) (Own.bundle (A := [R, Chunk.files w0.heap.size xs]) (L := [Chunk.blk gd (.cells #[.map (some gm), .int .i64 (({ d with fuse := decF d.fuse } : PD).most), .int .i64 (({ d with fuse := decF d.fuse } : PD).used), .int .i64 (({ d with fuse := decF d.fuse } : PD).fuse), .bool (({ d with fuse := decF d.fuse } : PD).down)] 76 (0, 0)), Chunk.lmap Try.prog 9 gm (xs.map XF.ent), Chunk.blk g34 (.cells #[.pointer (some ⟨gd, 0, none⟩)] 23 (0, 0)), Chunk.blk g40 (.cells #[.string nm] 9 (0, 0))]) ((Own.unbundle (A := [Chunk.blk g40 (.cells #[.string nm] 9 (0, 0)), Chunk.blk g34 (.cells #[.pointer (some ⟨gd, 0, none⟩)] 23 (0, 0)), R, Chunk.lmap Try.prog 9 gm (xs.map XF.ent), Chunk.files w0.heap.size xs]) (L := [Chunk.blk gd (.cells #[.map (some gm), .int .i64 (({ d with fuse := decF d.fuse } : PD).most), .int .i64 (({ d with fuse := decF d.fuse } : PD).used), .int .i64 (({ d with fuse := decF d.fuse } : PD).fuse), .bool (({ d with fuse := decF d.fuse } : PD).down)] 76 (0, 0))]) (by exact h_)).sel [2, 4, 5, 3, 1, 0] (by decide)))) (by exact HO115)) ?_
      rintro e109 w110 (⟨hf1, rfl, hb111⟩ | ⟨hf1, rfl, ⟨g, hb111⟩⟩)
      · skip
        refine ⟨_, rfl, fun a112 HF113 => ?_⟩
        have HO114 : Own w0 w110 [Chunk.blk g40 (.cells #[.string nm] 9 (0, 0)), Chunk.blk g34 (.cells #[.pointer (some ⟨gd, 0, none⟩)] 23 (0, 0)), R, Chunk.lmap Try.prog 9 gm (xs.map XF.ent), Chunk.files w0.heap.size xs, Chunk.blk gd (.cells #[.map (some gm), .int .i64 d.most, .int .i64 d.used, .int .i64 0, .bool true] 76 (0, 0))] := Own.unbundle (A := [Chunk.blk g40 (.cells #[.string nm] 9 (0, 0)), Chunk.blk g34 (.cells #[.pointer (some ⟨gd, 0, none⟩)] 23 (0, 0)), R, Chunk.lmap Try.prog 9 gm (xs.map XF.ent), Chunk.files w0.heap.size xs]) (L := [Chunk.blk gd (.cells #[.map (some gm), .int .i64 d.most, .int .i64 d.used, .int .i64 0, .bool true] 76 (0, 0))]) (by exact hb111)
        clear HO115 hb111
        clear HF108 HO102
        refine gw_ev HF113 (want_none rfl) rfl (by decide) (op_assign rfl (HF113.ev rfl)) ?_
        intro a116 HF117; clear HF113
        refine wpList_nil ?_
        refine gw_nx (hK104 _ _ ?_)
        refine wp_ret ?_
        refine gw_ret1 HF117 rfl rfl ?_
        exact disk_fin (gd := gd) (gm := gm) (d' := { d with fuse := 0, down := true }) (xs := xs) ((create_go hdn hnb hgd).trans (step_off hf1)) hxs (by exact HO114.sel [2, 5, 3, 4] (by decide))
      · skip
        refine ⟨_, rfl, fun a112 HF113 => ?_⟩
        have HO114 : Own w0 w110 [R, Chunk.files w0.heap.size xs, Chunk.blk g (.cells #[.slice none 0 0, .int .i64 0] 81 (0, 0)), Chunk.blk gd (.cells #[.map (some gm), .int .i64 (({ d with fuse := decF d.fuse } : PD).most), .int .i64 (({ d with fuse := decF d.fuse } : PD).used), .int .i64 (({ d with fuse := decF d.fuse } : PD).fuse), .bool (({ d with fuse := decF d.fuse } : PD).down)] 76 (0, 0)), Chunk.lmap Try.prog 9 gm (lput (litS nm) (.pointer (some ⟨g, 0, none⟩)) (xs.map XF.ent))] := Own.unbundle (A := [R, Chunk.files w0.heap.size xs]) (L := [Chunk.blk g (.cells #[.slice none 0 0, .int .i64 0] 81 (0, 0)), Chunk.blk gd (.cells #[.map (some gm), .int .i64 (({ d with fuse := decF d.fuse } : PD).most), .int .i64 (({ d with fuse := decF d.fuse } : PD).used), .int .i64 (({ d with fuse := decF d.fuse } : PD).fuse), .bool (({ d with fuse := decF d.fuse } : PD).down)] 76 (0, 0)), Chunk.lmap Try.prog 9 gm (lput (litS nm) (.pointer (some ⟨g, 0, none⟩)) (xs.map XF.ent))]) hb111
        clear HO115 hb111
        clear HF108 HO102
        refine gw_ev HF113 (want_none rfl) rfl (by decide) (op_assign rfl (HF113.ev rfl)) ?_
        intro a118 HF119; clear HF113
        refine wpList_nil ?_
        refine gw_nx (hK104 _ _ ?_)
        refine wp_ret ?_
        refine gw_ret1 HF119 rfl rfl ?_
        have HO120 := Own.file_close (x := (⟨⟨nm, [], 0⟩, g, none, 0, fun _ => False⟩ : XF)) (pre := []) (post := xs) (by exact (HO114.row_nil (Kd.int .u8) 5 w0.heap.size).sel [3, 0, 2, 1, 4, 5] (by decide))
        have HO121 := Own.files_perm (ys := insX (⟨⟨nm, [], 0⟩, g, none, 0, fun _ => False⟩ : XF) xs) HO120 (insX_perm _ _).symm
        have el_ : lput (litS nm) (.pointer (some ⟨g, 0, none⟩)) (xs.map XF.ent) = (insX (⟨⟨nm, [], 0⟩, g, none, 0, fun _ => False⟩ : XF) xs).map XF.ent := by rw [insX_ent]; unfold lput; rw [← delX_ent, delX_none hno]; rfl
        rw [el_] at HO121
        exact disk_fin (gd := gd) (gm := gm) (d' := _) (xs := insX (⟨⟨nm, [], 0⟩, g, none, 0, fun _ => False⟩ : XF) xs) ((create_go hdn hnb hgd).trans (step_on hf1 hfu.1)) (by rw [insX_p, hxs]; show _ = insF _ (delF nm d.fs); rw [← hxs, ← delX_p, delX_none hno]) (by exact HO121.sel [1, 2, 3, 0] (by decide))
  · skip
    have HO := Own.sel (Own.file_open (Own.sel HO [3, 0, 1, 2] (by decide))) [3, 4, 5, 0, 1, 2] (by decide)
    have HO122 : Own w0 w [R, Chunk.blk gd (.cells #[.map (some gm), .int .i64 d.most, .int .i64 d.used, .int .i64 d.fuse, .bool d.down] 76 (0, 0)), Chunk.lmap Try.prog 9 gm ((pre ++ x :: post).map XF.ent), Chunk.blk x.g (.cells #[.slice x.A x.p.b.length x.c, .int .i64 x.p.sf] 81 (0, 0)), Chunk.row (Kd.int .u8) 5 w0.heap.size x.S (.slice x.A x.p.b.length x.c) x.p.b, Chunk.files w0.heap.size (pre ++ post)] := HO
    clear HO
    refine gw_seq fun K123 hK123 => ?_
    refine wp_region_lit ?_
    refine gw_new HF HO122 (want_none rfl) rfl (by decide) (op_box rfl (HF.ev rfl)) ?_
    intro g124 a125 w126 HF127 HO128; clear HF HO122
    have HO129 : Own w0 w126 [Chunk.blk g124 (.cells #[.pointer (some ⟨gd, 0, none⟩)] 23 (0, 0)), R, Chunk.blk gd (.cells #[.map (some gm), .int .i64 d.most, .int .i64 d.used, .int .i64 d.fuse, .bool d.down] 76 (0, 0)), Chunk.lmap Try.prog 9 gm ((pre ++ x :: post).map XF.ent), Chunk.blk x.g (.cells #[.slice x.A x.p.b.length x.c, .int .i64 x.p.sf] 81 (0, 0)), Chunk.row (Kd.int .u8) 5 w0.heap.size x.S (.slice x.A x.p.b.length x.c) x.p.b, Chunk.files w0.heap.size (pre ++ post)] := HO128
    clear HO128
    refine gw_new HF127 HO129 (want_none rfl) rfl (by decide) (op_box rfl (HF127.ev rfl)) ?_
    intro g130 a131 w132 HF133 HO134; clear HF127 HO129
    have HO135 : Own w0 w132 [Chunk.blk g130 (.cells #[.string nm] 9 (0, 0)), Chunk.blk g124 (.cells #[.pointer (some ⟨gd, 0, none⟩)] 23 (0, 0)), R, Chunk.blk gd (.cells #[.map (some gm), .int .i64 d.most, .int .i64 d.used, .int .i64 d.fuse, .bool d.down] 76 (0, 0)), Chunk.lmap Try.prog 9 gm ((pre ++ x :: post).map XF.ent), Chunk.blk x.g (.cells #[.slice x.A x.p.b.length x.c, .int .i64 x.p.sf] 81 (0, 0)), Chunk.row (Kd.int .u8) 5 w0.heap.size x.S (.slice x.A x.p.b.length x.c) x.p.b, Chunk.files w0.heap.size (pre ++ post)] := HO134
    clear HO134
    refine gw_ev HF133 (want_none rfl) rfl (by decide) (op_assign rfl (ev_c _ _)) ?_
    intro a136 HF137; clear HF133
    refine wpList_nil ?_
    refine gw_nx (hK123 _ _ ?_)
    refine gw_seq fun K138 hK138 => ?_
    refine wp_block ?_
    refine gw_seq fun K139 hK139 => ?_
    refine wp_region_lit ?_
    refine gw_ev HF137 (want_none rfl) rfl (by decide) (op_load1 gwagg23 rfl (HF137.ev rfl) (blk_at (HO135.get 1 rfl) rfl)) ?_
    intro a140 HF141; clear HF137
    refine gw_ev HF141 (want_none rfl) rfl (by decide) (op_nil rfl (HF141.ev rfl)) ?_
    intro a142 HF143; clear HF141
    refine gw_ev HF143 (want_none rfl) rfl (by decide) (op_field (gwfld76_4 _ _) rfl (HF143.ev rfl)) ?_
    intro a144 HF145; clear HF143
    refine gw_ev HF145 (want_none rfl) rfl (by decide) (op_load1 gwagg4 rfl (HF145.ev rfl) (blk_at (HO135.get 3 rfl) rfl)) ?_
    intro a146 HF147; clear HF145
    have HF148 := HF147.lit (b := false) (hdn)
    clear HF147
    refine gw_ev HF148 (want_none rfl) rfl (by decide) (op_assign rfl (HF148.ev rfl)) ?_
    intro a149 HF150; clear HF148
    refine wpList_nil ?_
    refine gw_nx (hK139 _ _ ?_)
    refine gw_cond HF150 rfl (fun hb151 => ?_) (fun hb151 => ?_)
    skip
    · cases hb151
    refine gw_seq fun K152 hK152 => ?_
    refine wp_region_lit ?_
    refine gw_ev HF150 (want_none rfl) rfl (by decide) (op_load1 gwagg9 rfl (HF150.ev rfl) (blk_at (HO135.get 0 rfl) rfl)) ?_
    intro a153 HF154; clear HF150
    refine gw_call HF154 (want_none rfl) rfl (by decide) (op_callL Try.func39 (by kernel_rfl) rfl rfl (ar_cons (HF154.ev rfl) ar_nil)) (named_calls nm _) ?_
    rintro e155 w156 ⟨rfl, hb157⟩
    refine ⟨_, rfl, fun a158 HF159 => ?_⟩
    have HO160 := HO135.after hb157
    clear HF154 HO135 hb157
    refine gw_ev HF159 (want_none rfl) rfl (by decide) (op_not rfl (HF159.ev rfl)) ?_
    intro a162 HF163; clear HF159
    refine gw_ev HF163 (want_none rfl) rfl (by decide) (op_assign rfl (HF163.ev rfl)) ?_
    intro a164 HF165; clear HF163
    refine wpList_nil ?_
    refine gw_nx (hK152 _ _ ?_)
    refine gw_cond HF165 rfl (fun hb166 => ?_) (fun hb166 => ?_)
    · skip
      have HF167 := HF165.subst_ (d := 10) (b := true) rfl hb166
      clear HF165
      (try simp only [Bool.and_eq_true, Bool.or_eq_true, Bool.and_eq_false_iff, Bool.or_eq_false_iff, Bool.not_and, Bool.not_or, Bool.not_not, decide_eq_true_eq, decide_eq_false_iff_not, Bool.not_eq_true', Bool.not_eq_false', Bool.not_eq_true, Bool.not_eq_false, ne_eq, Decidable.not_not, Int.not_lt, Int.not_le, not_true_eq_false, not_false_eq_true, bne_iff_ne, beq_iff_eq, bne_eq_false_iff_eq, beq_eq_false_iff_ne] at hb166)
      have hnb : namedB nm = false := by simpa using hb166
      refine gw_seq fun K168 hK168 => ?_
      refine wp_region_lit ?_
      refine gw_ev HF167 (want_none rfl) rfl (by decide) (op_assign rfl (ev_c _ _)) ?_
      intro a169 HF170; clear HF167
      refine wpList_nil ?_
      refine gw_nx (hK168 _ _ ?_)
      refine wp_ret ?_
      refine gw_blr ?_
      refine gw_thr ?_
      refine gw_ret1 HF170 rfl rfl ?_
      have HO171 := Own.file_close (x := x) (pre := pre) (post := post) (by exact HO160.sel [5, 6, 7, 0, 1, 2, 3, 4] (by decide))
      exact disk_fin (gd := gd) (gm := gm) (d' := d) (xs := pre ++ x :: post) (create_bad hdn hnb) hxs (by exact HO171.sel [3, 4, 5, 0] (by decide))
    · skip
      have HF172 := HF165.subst_ (d := 10) (b := false) rfl hb166
      clear HF165
      (try simp only [Bool.and_eq_true, Bool.or_eq_true, Bool.and_eq_false_iff, Bool.or_eq_false_iff, Bool.not_and, Bool.not_or, Bool.not_not, decide_eq_true_eq, decide_eq_false_iff_not, Bool.not_eq_true', Bool.not_eq_false', Bool.not_eq_true, Bool.not_eq_false, ne_eq, Decidable.not_not, Int.not_lt, Int.not_le, not_true_eq_false, not_false_eq_true, bne_iff_ne, beq_iff_eq, bne_eq_false_iff_eq, beq_eq_false_iff_ne] at hb166)
      have hnb : namedB nm = true := by simpa using hb166
      refine gw_seq fun K173 hK173 => ?_
      refine gw_drawB HO160 (by kernel_rfl) (by kernel_rfl) fun w174 HO175 => ?_
      clear HO160
      refine gq_ev HF172 (want_none rfl) rfl (by decide) (fun wq hq => have HO := HO175.after hq; (op_load1 gwagg23 rfl (HF172.ev rfl) (blk_at (HO.get 1 rfl) rfl))) ?_
      intro a176 HF177; clear HF172
      refine gq_ev HF177 (want_none rfl) rfl (by decide) (fun wq hq => have HO := HO175.after hq; (op_nil rfl (HF177.ev rfl))) ?_
      intro a178 HF179; clear HF177
      refine gq_ev HF179 (want_none rfl) rfl (by decide) (fun wq hq => have HO := HO175.after hq; (op_field (gwfld76_0 _ _) rfl (HF179.ev rfl))) ?_
      intro a180 HF181; clear HF179
      refine gq_ev HF181 (want_none rfl) rfl (by decide) (fun wq hq => have HO := HO175.after hq; (op_load1 gwagg74 rfl (HF181.ev rfl) (blk_at (HO.get 3 rfl) rfl))) ?_
      intro a182 HF183; clear HF181
      refine gq_ev HF183 (want_none rfl) rfl (by decide) (fun wq hq => have HO := HO175.after hq; (op_load1 gwagg9 rfl (HF183.ev rfl) (blk_at (HO.get 0 rfl) rfl))) ?_
      intro a184 HF185; clear HF183
      refine gq_ev HF185 (want_none rfl) rfl (by decide) (fun wq hq => have HO := HO175.after hq; (op_ml_some strKey Try.underlying74 gwzer78 rfl (HF185.ev rfl) (HF185.ev rfl) (keyS (hn)) (HO.get 4 rfl) (hl))) ?_
      intro a186 HF187; clear HF185
      refine gq_ev HF187 (want_none rfl) rfl (by decide) (fun wq hq => have HO := HO175.after hq; (op_nep_nil Try.underlying78 rfl (HF187.ev rfl))) ?_
      intro a188 HF189; clear HF187
      refine gq_ev HF189 (want_none rfl) rfl (by decide) (fun wq hq => have HO := HO175.after hq; (op_assign rfl (HF189.ev rfl))) ?_
      intro a190 HF191; clear HF189
      refine wpQuiet_nil ?_
      intro w192 hq
      have HO193 := HO175.after hq
      clear HO175 hq
      refine gw_nx (hK173 _ _ ?_)
      refine gw_cond HF191 rfl (fun hb194 => ?_) (fun hb194 => ?_)
      rotate_left
      · cases hb194
      refine gw_seq fun K195 hK195 => ?_
      refine wp_region_lit ?_
      refine gw_ev HF191 (want_none rfl) rfl (by decide) (op_assign rfl (ev_c _ _)) ?_
      intro a196 HF197; clear HF191
      refine wpList_nil ?_
      refine gw_nx (hK195 _ _ ?_)
      refine wp_ret ?_
      refine gw_blr ?_
      refine gw_thr ?_
      refine gw_ret1 HF197 rfl rfl ?_
      have HO198 := Own.file_close (x := x) (pre := pre) (post := post) (by exact HO193.sel [5, 6, 7, 0, 1, 2, 3, 4] (by decide))
      exact disk_fin (gd := gd) (gm := gm) (d' := d) (xs := pre ++ x :: post) (create_twice hdn hnb hgd) hxs (by exact HO198.sel [3, 4, 5, 0] (by decide))
end GVfs1_
export GVfs1_ (create1 create_calls)
end Go.Proofs.Ytkdahjnmldeklaa.PA
