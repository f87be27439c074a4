/- The disk: Fail, Down, Room, Read, Names. Printed by a program of this session; Lean checks it. -/
import Derived.Test.YtkdahjnmldeklaaGVfs3
import Derived.Test.YtkdahjnmldeklaaHVfsN
import Derived.Test.YtkdahjnmldeklaaHClone0
namespace Go.Proofs.Ytkdahjnmldeklaa.PA
open Go.RowKit Go.Proofs.YtkdahjnmldeklaaW.PrintWords Go.Proofs.YtkdahjnmldeklaaW.PrintLast Go.Proofs.YtkdahjnmldeklaaW.PrintMore
set_option linter.unusedVariables false
set_option linter.unusedSimpArgs false
namespace GVfs4_
theorem gwagg28 : ∀ w, (isAgg 28).run Try.prog w = .ok false w := fun _ => by kernel_rfl
theorem gwagg3 : ∀ w, (isAgg 3).run Try.prog w = .ok false w := fun _ => by kernel_rfl
theorem gwagg4 : ∀ w, (isAgg 4).run Try.prog w = .ok false w := fun _ => by kernel_rfl
theorem gwagg74 : ∀ w, (isAgg 74).run Try.prog w = .ok false w := fun _ => by kernel_rfl
theorem gwfld76_0 (g off : Nat) : ∀ w, (Instr.fieldAt 76 (.pointer (some ⟨g, off, none⟩)) 0).run Try.prog w = .ok (.pointer (some ⟨g, off + 0, none⟩)) w := fun _ => by kernel_rfl
theorem gwfld76_1 (g off : Nat) : ∀ w, (Instr.fieldAt 76 (.pointer (some ⟨g, off, none⟩)) 1).run Try.prog w = .ok (.pointer (some ⟨g, off + 1, none⟩)) w := fun _ => by kernel_rfl
theorem gwfld76_2 (g off : Nat) : ∀ w, (Instr.fieldAt 76 (.pointer (some ⟨g, off, none⟩)) 2).run Try.prog w = .ok (.pointer (some ⟨g, off + 2, none⟩)) w := fun _ => by kernel_rfl
theorem gwfld76_3 (g off : Nat) : ∀ w, (Instr.fieldAt 76 (.pointer (some ⟨g, off, none⟩)) 3).run Try.prog w = .ok (.pointer (some ⟨g, off + 3, none⟩)) w := fun _ => by kernel_rfl
theorem gwfld76_4 (g off : Nat) : ∀ w, (Instr.fieldAt 76 (.pointer (some ⟨g, off, none⟩)) 4).run Try.prog w = .ok (.pointer (some ⟨g, off + 4, none⟩)) w := fun _ => by kernel_rfl
theorem gwfld81_0 (g off : Nat) : ∀ w, (Instr.fieldAt 81 (.pointer (some ⟨g, off, none⟩)) 0).run Try.prog w = .ok (.pointer (some ⟨g, off + 0, none⟩)) w := fun _ => by kernel_rfl
theorem gwsiz3 : ∀ w, (sizeOf 3).run Try.prog w = .ok 1 w := fun _ => by kernel_rfl
set_option maxHeartbeats 4000000 in
set_option maxRecDepth 100000 in
theorem fail_calls (w0 w : World) (R : Chunk) (gd : Nat) (S : Nat → Prop) (d : PD) (n : Int) (HO : Own w0 w [R, Chunk.disk w0.heap.size gd S d]) :
    Calls Try.prog 14 #[.pointer (some ⟨gd, 0, none⟩), .int .i64 n] w fun e w' => e = .returned (.tuple #[]) ∧ ∃ S', Own w0 w' [R, Chunk.disk w0.heap.size gd S' { d with fuse := mx n 0 }] := by
  obtain ⟨gm, xs, hxs, hon, HO⟩ := disk_open2 HO
  refine gw_startO (N := 9) (vs := [.pointer (some ⟨gd, 0, none⟩), .int .i64 n]) Try.func14 rfl rfl (by simp) fun a HF => ?_
  refine wp_region_lit ?_
  refine gw_ev HF (want_none rfl) rfl (by decide) (op_move rfl (HF.ev rfl)) ?_
  intro a1 HF2; clear HF
  refine gw_ev HF2 (want_none rfl) rfl (by decide) (op_move rfl (HF2.ev rfl)) ?_
  intro a3 HF4; clear HF2
  refine gw_ev HF4 (want_none rfl) rfl (by decide) (op_max rfl (HF4.ev rfl) (ev_c _ _)) ?_
  intro a5 HF6; clear HF4
  refine gw_ev HF6 (want_none rfl) rfl (by decide) (op_nil rfl (HF6.ev rfl)) ?_
  intro a7 HF8; clear HF6
  refine gw_ev HF8 (want_none rfl) rfl (by decide) (op_field (gwfld76_3 _ _) rfl (HF8.ev rfl)) ?_
  intro a9 HF10; clear HF8
  refine gw_set 1 HF10 HO rfl (want_none rfl) rfl (op_store1 gwsiz3 rfl (HF10.ev rfl) (HF10.ev rfl) rfl (blk_at (HO.get 1 rfl) rfl) (blkf (HO.get 1 rfl))) ?_
  intro a11 w13 HF12 HO14; clear HF10 HO
  have HO15 : Own w0 w13 [R, Chunk.blk gd (.cells #[.map (some gm), .int .i64 d.most, .int .i64 d.used, .int .i64 (mx n 0), .bool d.down] 76 (0, 0)), Chunk.lmap Try.prog 9 gm (xs.map XF.ent), Chunk.files w0.heap.size xs] := HO14
  clear HO14
  refine wpList_nil ?_
  refine gw_end0 HF12 rfl ?_
  exact ⟨rfl, disk_close2 (d := { d with fuse := mx n 0 }) hxs (by exact HO15.sel [0, 1, 2, 3] (by decide))⟩
set_option maxHeartbeats 4000000 in
set_option maxRecDepth 100000 in
theorem down_calls (base gd : Nat) (S : Nat → Prop) (d : PD) (w : World) (hD : (Chunk.disk base gd S d).P w) :
    Calls Try.prog 21 #[.pointer (some ⟨gd, 0, none⟩)] w fun e w' => e = .returned (.bool d.down) ∧ Below w.heap.size w w' := by
  obtain ⟨gm, xs, hxs, hon, hB, hL, hfs⟩ := disk_blk hD
  refine gw_start (N := 7) (vs := [.pointer (some ⟨gd, 0, none⟩)]) Try.func21 rfl rfl (by simp) fun a HF HO => ?_
  replace HO : Own w w [] := HO
  refine gw_seq fun K1 hK1 => ?_
  refine wp_region_lit ?_
  refine gw_ev HF (want_none rfl) rfl (by decide) (op_assign rfl (ev_c _ _)) ?_
  intro a2 HF3; clear HF
  refine wpList_nil ?_
  refine gw_nx (hK1 _ _ ?_)
  refine gw_seq fun K4 hK4 => ?_
  refine wp_region_lit ?_
  refine gw_ev HF3 (want_none rfl) rfl (by decide) (op_move rfl (HF3.ev rfl)) ?_
  intro a5 HF6; clear HF3
  refine gw_ev HF6 (want_none rfl) rfl (by decide) (op_nil rfl (HF6.ev rfl)) ?_
  intro a7 HF8; clear HF6
  refine gw_ev HF8 (want_none rfl) rfl (by decide) (op_field (gwfld76_4 _ _) rfl (HF8.ev rfl)) ?_
  intro a9 HF10; clear HF8
  refine gw_ev HF10 (want_none rfl) rfl (by decide) (op_load1 gwagg4 rfl (HF10.ev rfl) (blk_at (argblk HO hB) rfl)) ?_
  intro a11 HF12; clear HF10
  refine gw_ev HF12 (want_none rfl) rfl (by decide) (op_assign rfl (HF12.ev rfl)) ?_
  intro a13 HF14; clear HF12
  refine wpList_nil ?_
  refine gw_nx (hK4 _ _ ?_)
  refine wp_ret ?_
  refine gw_ret1 HF14 rfl rfl ?_
  exact ⟨rfl, HO.below⟩
set_option maxHeartbeats 4000000 in
set_option maxRecDepth 100000 in
theorem room_calls (base gd : Nat) (S : Nat → Prop) (d : PD) (w : World) (hD : (Chunk.disk base gd S d).P w) (hw : wfD d) :
    Calls Try.prog 24 #[.pointer (some ⟨gd, 0, none⟩)] w fun e w' => e = .returned (.int .i64 (d.most - d.used)) ∧ Below w.heap.size w w' := by
  obtain ⟨gm, xs, hxs, hon, hB, hL, hfs⟩ := disk_blk hD
  have hu0 := hw.used
  have hm0 := hw.most
  refine gw_start (N := 12) (vs := [.pointer (some ⟨gd, 0, none⟩)]) Try.func24 rfl rfl (by simp) fun a HF HO => ?_
  replace HO : Own w w [] := HO
  refine gw_seq fun K1 hK1 => ?_
  refine wp_region_lit ?_
  refine gw_ev HF (want_none rfl) rfl (by decide) (op_assign rfl (ev_c _ _)) ?_
  intro a2 HF3; clear HF
  refine wpList_nil ?_
  refine gw_nx (hK1 _ _ ?_)
  refine gw_seq fun K4 hK4 => ?_
  refine gw_drawB HO (by kernel_rfl) (by kernel_rfl) fun w5 HO6 => ?_
  clear HO
  refine gq_ev HF3 (want_none rfl) rfl (by decide) (fun wq hq => have HO := HO6.after hq; (op_move rfl (HF3.ev rfl))) ?_
  intro a7 HF8; clear HF3
  refine gq_ev HF8 (want_none rfl) rfl (by decide) (fun wq hq => have HO := HO6.after hq; (op_nil rfl (HF8.ev rfl))) ?_
  intro a9 HF10; clear HF8
  refine gq_ev HF10 (want_none rfl) rfl (by decide) (fun wq hq => have HO := HO6.after hq; (op_field (gwfld76_1 _ _) rfl (HF10.ev rfl))) ?_
  intro a11 HF12; clear HF10
  refine gq_ev HF12 (want_none rfl) rfl (by decide) (fun wq hq => have HO := HO6.after hq; (op_load1 gwagg3 rfl (HF12.ev rfl) (blk_at (argblk HO hB) rfl))) ?_
  intro a13 HF14; clear HF12
  refine gq_ev HF14 (want_none rfl) rfl (by decide) (fun wq hq => have HO := HO6.after hq; (op_move rfl (HF14.ev rfl))) ?_
  intro a15 HF16; clear HF14
  refine gq_ev HF16 (want_none rfl) rfl (by decide) (fun wq hq => have HO := HO6.after hq; (op_nil rfl (HF16.ev rfl))) ?_
  intro a17 HF18; clear HF16
  refine gq_ev HF18 (want_none rfl) rfl (by decide) (fun wq hq => have HO := HO6.after hq; (op_field (gwfld76_2 _ _) rfl (HF18.ev rfl))) ?_
  intro a19 HF20; clear HF18
  refine gq_ev HF20 (want_none rfl) rfl (by decide) (fun wq hq => have HO := HO6.after hq; (op_load1 gwagg3 rfl (HF20.ev rfl) (blk_at (argblk HO hB) rfl))) ?_
  intro a21 HF22; clear HF20
  refine gq_ev HF22 (want_none rfl) rfl (by decide) (fun wq hq => have HO := HO6.after hq; (op_sub rfl (HF22.ev rfl) (HF22.ev rfl) (by omega))) ?_
  intro a23 HF24; clear HF22
  refine gq_ev HF24 (want_none rfl) rfl (by decide) (fun wq hq => have HO := HO6.after hq; (op_assign rfl (HF24.ev rfl))) ?_
  intro a25 HF26; clear HF24
  refine wpQuiet_nil ?_
  intro w27 hq
  have HO28 := HO6.after hq
  clear HO6 hq
  refine gw_nx (hK4 _ _ ?_)
  refine wp_ret ?_
  refine gw_ret1 HF26 rfl rfl ?_
  exact ⟨rfl, HO28.below⟩
set_option maxHeartbeats 4000000 in
set_option maxRecDepth 100000 in
theorem read_calls (base gd : Nat) (S : Nat → Prop) (d : PD) (nm : ByteArray) (w : World) (hD : (Chunk.disk base gd S d).P w) (hn : nm.size ≤ 9223372036854775807) (hw : wfD d) (hroom : d.used ≤ 140737488355327) :
    Calls Try.prog 18 #[.pointer (some ⟨gd, 0, none⟩), .string nm] w fun e w' => ∃ A c S', e = .returned (.tuple #[.slice A (readD nm d).1.length c, .int .i64 (readD nm d).2]) ∧ Out w w' (fun _ => False) [Chunk.row (Kd.int .u8) 5 w.heap.size S' (.slice A (readD nm d).1.length c) (readD nm d).1] := by
  obtain ⟨gm, xs, hxs, hon, hB, hL, hfs⟩ := disk_blk hD
  refine gw_start (N := 22) (vs := [.pointer (some ⟨gd, 0, none⟩), .string nm]) Try.func18 rfl rfl (by simp) fun a HF HO => ?_
  replace HO : Own w w [] := HO
  rcases look3 nm d hxs hon with hdn | ⟨hdn, hl, hgd, hno⟩ | ⟨hdn, pre, x, post, rfl, hnm, hl, hgd, hoth⟩
  · skip
    refine gw_seq fun K1 hK1 => ?_
    refine wp_region_lit ?_
    refine gw_ev HF (want_none rfl) rfl (by decide) (op_assign rfl (ev_c _ _)) ?_
    intro a2 HF3; clear HF
    refine gw_ev HF3 (want_none rfl) rfl (by decide) (op_assign rfl (ev_c _ _)) ?_
    intro a4 HF5; clear HF3
    refine wpList_nil ?_
    refine gw_nx (hK1 _ _ ?_)
    refine gw_seq fun K6 hK6 => ?_
    refine wp_region_lit ?_
    refine gw_ev HF5 (want_none rfl) rfl (by decide) (op_move rfl (HF5.ev rfl)) ?_
    intro a7 HF8; clear HF5
    refine gw_ev HF8 (want_none rfl) rfl (by decide) (op_move rfl (HF8.ev rfl)) ?_
    intro a9 HF10; clear HF8
    refine gw_call HF10 (want_none rfl) rfl (by decide) (op_callL Try.func42 (by kernel_rfl) rfl rfl (ar_cons (HF10.ev rfl) (ar_cons (HF10.ev rfl) ar_nil))) (find_down gd gm d nm (xs.map XF.ent) _ (argblk HO hB) (lmap_arg HO hL) hdn hn) ?_
    rintro e11 w12 ⟨rfl, hb13⟩
    refine ⟨_, rfl, fun a14 HF15 => ?_⟩
    have HO16 := HO.after hb13
    clear HF10 HO hb13
    refine gw_ev HF15 (want_none rfl) rfl (by decide) (op_move rfl (HF15.ev rfl)) ?_
    intro a18 HF19; clear HF15
    refine gw_ev HF19 (want_none rfl) rfl (by decide) (op_extract rfl (HF19.ev rfl) rfl) ?_
    intro a20 HF21; clear HF19
    refine gw_ev HF21 (want_none rfl) rfl (by decide) (op_extract rfl (HF21.ev rfl) rfl) ?_
    intro a22 HF23; clear HF21
    refine gw_ev HF23 (want_none rfl) rfl (by decide) (op_assign rfl (HF23.ev rfl)) ?_
    intro a24 HF25; clear HF23
    refine gw_ev HF25 (want_none rfl) rfl (by decide) (op_assign rfl (HF25.ev rfl)) ?_
    intro a26 HF27; clear HF25
    refine wpList_nil ?_
    refine gw_nx (hK6 _ _ ?_)
    refine gw_seq fun K28 hK28 => ?_
    refine gw_seq fun K29 hK29 => ?_
    refine wp_region_lit ?_
    refine gw_ev HF27 (want_none rfl) rfl (by decide) (op_move rfl (HF27.ev rfl)) ?_
    intro a30 HF31; clear HF27
    refine gw_ev HF31 (want_none rfl) rfl (by decide) (op_nei rfl (HF31.ev rfl) (ev_c _ _)) ?_
    intro a32 HF33; clear HF31
    have HF34 := HF33.lit (b := true) (by decide)
    clear HF33
    refine wpList_nil ?_
    refine gw_nx (hK29 _ _ ?_)
    refine gw_cond HF34 rfl (fun hb35 => ?_) (fun hb35 => ?_)
    rotate_left
    · cases hb35
    refine gw_seq fun K36 hK36 => ?_
    refine wp_region_lit ?_
    refine gw_ev HF34 (want_none rfl) rfl (by decide) (op_move rfl (HF34.ev rfl)) ?_
    intro a37 HF38; clear HF34
    refine gw_ev HF38 (want_none rfl) rfl (by decide) (op_assign rfl (ev_c _ _)) ?_
    intro a39 HF40; clear HF38
    refine gw_ev HF40 (want_none rfl) rfl (by decide) (op_assign rfl (HF40.ev rfl)) ?_
    intro a41 HF42; clear HF40
    refine wpList_nil ?_
    refine gw_nx (hK36 _ _ ?_)
    refine wp_ret ?_
    refine gw_thr ?_
    refine gw_ret2 HF42 rfl rfl rfl ?_
    rw [read_down hdn]
    exact ⟨none, 0, _, rfl, ((HO16.row_nil (Kd.int .u8) 5 w.heap.size).sel [0] (by decide)).out⟩
  · skip
    refine gw_seq fun K43 hK43 => ?_
    refine wp_region_lit ?_
    refine gw_ev HF (want_none rfl) rfl (by decide) (op_assign rfl (ev_c _ _)) ?_
    intro a44 HF45; clear HF
    refine gw_ev HF45 (want_none rfl) rfl (by decide) (op_assign rfl (ev_c _ _)) ?_
    intro a46 HF47; clear HF45
    refine wpList_nil ?_
    refine gw_nx (hK43 _ _ ?_)
    refine gw_seq fun K48 hK48 => ?_
    refine wp_region_lit ?_
    refine gw_ev HF47 (want_none rfl) rfl (by decide) (op_move rfl (HF47.ev rfl)) ?_
    intro a49 HF50; clear HF47
    refine gw_ev HF50 (want_none rfl) rfl (by decide) (op_move rfl (HF50.ev rfl)) ?_
    intro a51 HF52; clear HF50
    refine gw_call HF52 (want_none rfl) rfl (by decide) (op_callL Try.func42 (by kernel_rfl) rfl rfl (ar_cons (HF52.ev rfl) (ar_cons (HF52.ev rfl) ar_nil))) (find_none gd gm d nm (xs.map XF.ent) _ (argblk HO hB) (lmap_arg HO hL) hdn hl hn) ?_
    rintro e53 w54 ⟨rfl, hb55⟩
    refine ⟨_, rfl, fun a56 HF57 => ?_⟩
    have HO58 := HO.after hb55
    clear HF52 HO hb55
    refine gw_ev HF57 (want_none rfl) rfl (by decide) (op_move rfl (HF57.ev rfl)) ?_
    intro a60 HF61; clear HF57
    refine gw_ev HF61 (want_none rfl) rfl (by decide) (op_extract rfl (HF61.ev rfl) rfl) ?_
    intro a62 HF63; clear HF61
    refine gw_ev HF63 (want_none rfl) rfl (by decide) (op_extract rfl (HF63.ev rfl) rfl) ?_
    intro a64 HF65; clear HF63
    refine gw_ev HF65 (want_none rfl) rfl (by decide) (op_assign rfl (HF65.ev rfl)) ?_
    intro a66 HF67; clear HF65
    refine gw_ev HF67 (want_none rfl) rfl (by decide) (op_assign rfl (HF67.ev rfl)) ?_
    intro a68 HF69; clear HF67
    refine wpList_nil ?_
    refine gw_nx (hK48 _ _ ?_)
    refine gw_seq fun K70 hK70 => ?_
    refine gw_seq fun K71 hK71 => ?_
    refine wp_region_lit ?_
    refine gw_ev HF69 (want_none rfl) rfl (by decide) (op_move rfl (HF69.ev rfl)) ?_
    intro a72 HF73; clear HF69
    refine gw_ev HF73 (want_none rfl) rfl (by decide) (op_nei rfl (HF73.ev rfl) (ev_c _ _)) ?_
    intro a74 HF75; clear HF73
    have HF76 := HF75.lit (b := true) (by decide)
    clear HF75
    refine wpList_nil ?_
    refine gw_nx (hK71 _ _ ?_)
    refine gw_cond HF76 rfl (fun hb77 => ?_) (fun hb77 => ?_)
    rotate_left
    · cases hb77
    refine gw_seq fun K78 hK78 => ?_
    refine wp_region_lit ?_
    refine gw_ev HF76 (want_none rfl) rfl (by decide) (op_move rfl (HF76.ev rfl)) ?_
    intro a79 HF80; clear HF76
    refine gw_ev HF80 (want_none rfl) rfl (by decide) (op_assign rfl (ev_c _ _)) ?_
    intro a81 HF82; clear HF80
    refine gw_ev HF82 (want_none rfl) rfl (by decide) (op_assign rfl (HF82.ev rfl)) ?_
    intro a83 HF84; clear HF82
    refine wpList_nil ?_
    refine gw_nx (hK78 _ _ ?_)
    refine wp_ret ?_
    refine gw_thr ?_
    refine gw_ret2 HF84 rfl rfl rfl ?_
    rw [read_none hdn hgd]
    exact ⟨none, 0, _, rfl, ((HO58.row_nil (Kd.int .u8) 5 w.heap.size).sel [0] (by decide)).out⟩
  · skip
    obtain ⟨hB2, hC, hcx⟩ := hfs x (by simp)
    refine gw_seq fun K85 hK85 => ?_
    refine wp_region_lit ?_
    refine gw_ev HF (want_none rfl) rfl (by decide) (op_assign rfl (ev_c _ _)) ?_
    intro a86 HF87; clear HF
    refine gw_ev HF87 (want_none rfl) rfl (by decide) (op_assign rfl (ev_c _ _)) ?_
    intro a88 HF89; clear HF87
    refine wpList_nil ?_
    refine gw_nx (hK85 _ _ ?_)
    refine gw_seq fun K90 hK90 => ?_
    refine wp_region_lit ?_
    refine gw_ev HF89 (want_none rfl) rfl (by decide) (op_move rfl (HF89.ev rfl)) ?_
    intro a91 HF92; clear HF89
    refine gw_ev HF92 (want_none rfl) rfl (by decide) (op_move rfl (HF92.ev rfl)) ?_
    intro a93 HF94; clear HF92
    refine gw_call HF94 (want_none rfl) rfl (by decide) (op_callL Try.func42 (by kernel_rfl) rfl rfl (ar_cons (HF94.ev rfl) (ar_cons (HF94.ev rfl) ar_nil))) (find_some gd gm d nm ((pre ++ x :: post).map XF.ent) x.g _ (argblk HO hB) (lmap_arg HO hL) hdn hl hn) ?_
    rintro e95 w96 ⟨rfl, hb97⟩
    refine ⟨_, rfl, fun a98 HF99 => ?_⟩
    have HO100 := HO.after hb97
    clear HF94 HO hb97
    refine gw_ev HF99 (want_none rfl) rfl (by decide) (op_move rfl (HF99.ev rfl)) ?_
    intro a102 HF103; clear HF99
    refine gw_ev HF103 (want_none rfl) rfl (by decide) (op_extract rfl (HF103.ev rfl) rfl) ?_
    intro a104 HF105; clear HF103
    refine gw_ev HF105 (want_none rfl) rfl (by decide) (op_extract rfl (HF105.ev rfl) rfl) ?_
    intro a106 HF107; clear HF105
    refine gw_ev HF107 (want_none rfl) rfl (by decide) (op_assign rfl (HF107.ev rfl)) ?_
    intro a108 HF109; clear HF107
    refine gw_ev HF109 (want_none rfl) rfl (by decide) (op_assign rfl (HF109.ev rfl)) ?_
    intro a110 HF111; clear HF109
    refine wpList_nil ?_
    refine gw_nx (hK90 _ _ ?_)
    refine gw_seq fun K112 hK112 => ?_
    refine gw_seq fun K113 hK113 => ?_
    refine wp_region_lit ?_
    refine gw_ev HF111 (want_none rfl) rfl (by decide) (op_move rfl (HF111.ev rfl)) ?_
    intro a114 HF115; clear HF111
    refine gw_ev HF115 (want_none rfl) rfl (by decide) (op_nei rfl (HF115.ev rfl) (ev_c _ _)) ?_
    intro a116 HF117; clear HF115
    have HF118 := HF117.lit (b := false) (by decide)
    clear HF117
    refine wpList_nil ?_
    refine gw_nx (hK113 _ _ ?_)
    refine gw_cond HF118 rfl (fun hb119 => ?_) (fun hb119 => ?_)
    skip
    · cases hb119
    refine wp_skip ?_
    refine gw_nx (hK112 _ _ ?_)
    refine gw_seq fun K120 hK120 => ?_
    refine wp_region_lit ?_
    refine gw_ev HF118 (want_none rfl) rfl (by decide) (op_move rfl (HF118.ev rfl)) ?_
    intro a121 HF122; clear HF118
    refine gw_ev HF122 (want_none rfl) rfl (by decide) (op_nil rfl (HF122.ev rfl)) ?_
    intro a123 HF124; clear HF122
    refine gw_ev HF124 (want_none rfl) rfl (by decide) (op_field (gwfld81_0 _ _) rfl (HF124.ev rfl)) ?_
    intro a125 HF126; clear HF124
    refine gw_ev HF126 (want_none rfl) rfl (by decide) (op_load1 gwagg28 rfl (HF126.ev rfl) (blk_at (argblk HO100 hB2) rfl)) ?_
    intro a127 HF128; clear HF126
    refine gw_call HF128 (want_none rfl) rfl (by decide) (op_callL Try.func45 (by kernel_rfl) rfl rfl (ar_cons (HF128.ev rfl) ar_nil)) (clone0 x.A x.c x.p.b _ (Kd.C_below hC HO100.below) hcx (by have h_ := wf_len hw (getF_mem hgd).1; omega)) ?_
    rintro e132 w133 ⟨A129, c130, S131, rfl, hb134⟩
    refine ⟨_, rfl, fun a135 HF136 => ?_⟩
    have HO137 := HO100.fresh hb134
    have hbel138 := HO100.below
    clear HF128 HO100 hb134
    have HO139 := HO137.lowrow 0 rfl (base' := w.heap.size) (Below.size hbel138)
    have HO140 : Own w w133 [Chunk.row (Kd.int .u8) 5 w.heap.size S131 (.slice A129 x.p.b.length c130) x.p.b] := HO139
    clear HO139
    refine gw_ev HF136 (want_none rfl) rfl (by decide) (op_assign rfl (HF136.ev rfl)) ?_
    intro a141 HF142; clear HF136
    refine gw_ev HF142 (want_none rfl) rfl (by decide) (op_assign rfl (ev_c _ _)) ?_
    intro a143 HF144; clear HF142
    refine wpList_nil ?_
    refine gw_nx (hK120 _ _ ?_)
    refine wp_ret ?_
    refine gw_ret2 HF144 rfl rfl rfl ?_
    rw [read_some hdn hgd]
    exact ⟨_, _, _, rfl, (HO140.sel [0] (by decide)).out⟩
set_option maxHeartbeats 4000000 in
set_option maxRecDepth 100000 in
theorem names_calls (base gd : Nat) (S : Nat → Prop) (d : PD) (w : World) (hD : (Chunk.disk base gd S d).P w) (hlen : d.fs.length ≤ 1000000) :
    Calls Try.prog 22 #[.pointer (some ⟨gd, 0, none⟩)] w fun e w' => ∃ A c S', e = .returned (.slice A (namesD d).length c) ∧ Out w w' (fun _ => False) [Chunk.row Kd.string 9 w.heap.size S' (.slice A (namesD d).length c) (namesD d)] := by
  obtain ⟨gm, xs, hxs, hon, hB, hL, hfs⟩ := disk_blk hD
  have hxl : xs.length ≤ 1000000 := by rw [← hxs, List.length_map] at hlen; exact hlen
  have en_ : (xs.map fun x => x.p.nm) = namesD d := by unfold namesD; rw [← hxs, List.map_map]; rfl
  refine gw_start (N := 9) (vs := [.pointer (some ⟨gd, 0, none⟩)]) Try.func22 rfl rfl (by simp) fun a HF HO => ?_
  replace HO : Own w w [] := HO
  refine gw_seq fun K1 hK1 => ?_
  refine wp_region_lit ?_
  refine gw_ev HF (want_none rfl) rfl (by decide) (op_assign rfl (ev_c _ _)) ?_
  intro a2 HF3; clear HF
  refine wpList_nil ?_
  refine gw_nx (hK1 _ _ ?_)
  refine gw_seq fun K4 hK4 => ?_
  refine wp_region_lit ?_
  refine gw_ev HF3 (want_none rfl) rfl (by decide) (op_move rfl (HF3.ev rfl)) ?_
  intro a5 HF6; clear HF3
  refine gw_ev HF6 (want_none rfl) rfl (by decide) (op_nil rfl (HF6.ev rfl)) ?_
  intro a7 HF8; clear HF6
  refine gw_ev HF8 (want_none rfl) rfl (by decide) (op_field (gwfld76_0 _ _) rfl (HF8.ev rfl)) ?_
  intro a9 HF10; clear HF8
  refine gw_ev HF10 (want_none rfl) rfl (by decide) (op_load1 gwagg74 rfl (HF10.ev rfl) (blk_at (argblk HO hB) rfl)) ?_
  intro a11 HF12; clear HF10
  have hOn := HO
  refine gw_call HF12 (want_none rfl) rfl (by decide) (op_callL Try.func49 (by kernel_rfl) rfl rfl (ar_cons (HF12.ev rfl) ar_nil)) (keys_at _ _) ?_
  rintro _ _ ⟨rfl, rfl⟩
  refine ⟨_, rfl, fun a16 HF17 => ?_⟩
  have HO18 := HO.new (.cells #[.map (some gm)] 74)
  clear HF12 HO
  have HO19 : Own w (w.alloc (.cells #[.map (some gm)] 74)) [Chunk.blk w.heap.size (.cells #[.map (some gm)] 74 (0, 0))] := HO18
  clear HO18
  refine gw_call HF17 (want_none rfl) rfl (by decide) (op_callL Try.func48 (by kernel_rfl) rfl rfl (ar_cons (HF17.ev rfl) ar_nil)) (sorted_at gm xs _ (lmap_arg hOn hL) hxl) ?_
  rintro e23 w24 ⟨A20, c21, S22, rfl, hb25⟩
  refine ⟨_, rfl, fun a26 HF27 => ?_⟩
  have HO28 := HO19.fresh hb25
  have hbel29 := HO19.below
  clear HF17 HO19 hb25
  have HO30 := HO28.lowrow 0 rfl (base' := w.heap.size) (Below.size hbel29)
  have HO31 : Own w w24 [Chunk.row Kd.string 9 w.heap.size S22 (.slice A20 ((xs.map fun x => x.p.nm).length) c21) (xs.map fun x => x.p.nm), Chunk.blk w.heap.size (.cells #[.map (some gm)] 74 (0, 0))] := HO30
  clear HO30
  refine gw_ev HF27 (want_none rfl) rfl (by decide) (op_assign rfl (HF27.ev rfl)) ?_
  intro a32 HF33; clear HF27
  refine wpList_nil ?_
  refine gw_nx (hK4 _ _ ?_)
  refine wp_ret ?_
  refine gw_ret1 HF33 rfl rfl ?_
  rw [← en_]
  exact ⟨_, _, _, rfl, (HO31.sel [0] (by decide)).out⟩
end GVfs4_
export GVfs4_ (fail_calls down_calls room_calls read_calls names_calls)
end Go.Proofs.Ytkdahjnmldeklaa.PA
